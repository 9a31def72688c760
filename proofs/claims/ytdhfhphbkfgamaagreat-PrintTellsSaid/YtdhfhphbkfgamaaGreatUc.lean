/- A part. -/
import Derived.Test.YtdhfhphbkfgamaaGreatTq
set_option maxRecDepth 100000
set_option linter.all false
namespace Go.Proofs.YtdhfhphbkfgamaaGreat
section
open Lx Proofs.Tryz
def EJ(s:List UInt8):List UInt8:=if 8192<s.length then s.take 8192 else s
def IB(s t:List UInt8):List UInt8:=if s=[]then t else s++[32]++t
def Le(amp:Bool):List UInt8:=if amp=true then [32]else [59,32]
def C0(s:List UInt8)(amp:Bool):List UInt8:=s++Le amp
def Ek(s:List UInt8)(l:List (List UInt8)):List UInt8:=l.foldl (fun s x=>EJ (IB s x)) s
def DE(t:List (List UInt8))(h:List UInt8):Nat->List UInt8
 |0=>[]
 |m+1=>EJ ((if 0<m then DE t h m++h else DE t h m)++t.getD m [])
def I1(t:List (List UInt8))(h:List Bool):Nat->List UInt8
 |0=>[]
 |m+1=>EJ ((if 0<m then I1 t h m++Le (h.getD (m-1) false)else I1 t h m)++t.getD m [])
def Kr(s:List UInt8)(l:List (List UInt8)):List UInt8:=l.foldl (fun s x=>EJ (s++[32]++x)) s
def Gl(s:List UInt8)(p:List (List UInt8)):Nat->List UInt8
 |0=>s
 |m+1=>(if 0<m then Gl s p m++[32,124,32]else Gl s p m)++p.getD m []
def casT(n:V)(t:List (List UInt8)):Nat->List UInt8
 |0=>[99,97,115,101,32]++n.words.headD []++[32,105,110]
 |m+1=>EJ ((if t.getD m []≠[]then Gl (casT n t m++[32,40]) (n.AT.getD m []) (n.AT.getD m []).length++[41]++[32]++t.getD m []else Gl (casT n t m++[32,40]) (n.AT.getD m []) (n.AT.getD m []).length++[41])++[59,59])
def CT(n:V)(t:List (List UInt8))(h amp:List Bool)(z:Bool):List UInt8:=
 if n.kind=1 then Ek (Ek [] n.AZ) n.words
 else if n.kind=2 then [33,32]++t.getD 0 []
 else if n.kind=7 then t.getD 0 []++[32,38]
 else if n.kind=3 then DE t [32,124,32] t.length
 else if n.kind=4 then DE t [32,38,38,32] t.length
 else if n.kind=5 then DE t [32,124,124,32] t.length
 else if n.kind=6 then I1 t h t.length
 else if n.kind=8 then [123,32]++C0 (t.getD 0 []) (amp.getD 0 false)++[125]
 else if n.kind=9 then [40,32]++t.getD 0 []++[32,41]
 else if n.kind=10 then [105,102,32]++C0 (t.getD 0 []) (amp.getD 0 false)++[116,104,101,110,32]++C0 (t.getD 1 []) (amp.getD 1 false)++
  (if z=true then [101,108]++t.getD 2 []else if 2<t.length then [101,108,115,101,32]++C0 (t.getD 2 []) (amp.getD 2 false)++[102,105]else [102,105])
 else if n.kind=11 then [119,104,105,108,101,32]++C0 (t.getD 0 []) (amp.getD 0 false)++[100,111,32]++C0 (t.getD 1 []) (amp.getD 1 false)++[100,111,110,101]
 else if n.kind=12 then [117,110,116,105,108,32]++C0 (t.getD 0 []) (amp.getD 0 false)++[100,111,32]++C0 (t.getD 1 []) (amp.getD 1 false)++[100,111,110,101]
 else if n.kind=13 then(if n.A7=true then Kr ([102,111,114,32]++n.name++[32,105,110]) n.words else [102,111,114,32]++n.name)++[59,32,100,111,32]++C0 (t.getD 0 []) (amp.getD 0 false)++[100,111,110,101]
 else if n.kind=14 then casT n t n.AT.length++[32,101,115,97,99]
 else if n.kind=15 then n.name++[40,41,32]++t.getD 0 []
 else []
def IT(n:V)(t:List (List UInt8))(h amp:List Bool)(z:Bool):List UInt8:=EJ (Ek (CT n t h amp z) (n.AK.map D6))
def Ez(h:List (List UInt8))(n:V):List (List UInt8):=n.kids.map fun k=>if k<0 then []else h.getD k.toNat []
def EE(l:List V)(n:V):List Bool:=n.kids.map fun k=>if k<0 then false else(Jv l k).kind==7
def C7(h:List Bool)(n:V):List Bool:=n.kids.map fun k=>if k<0 then false else h.getD k.toNat false
def Lf(l:List V)(n:V):Bool:=n.kind==7||(n.kind==6&&(EE l n).getLastD false)
def Ch(l:List V):Nat->List (List UInt8)×List Bool
 |0=>([],[])
 |m+1=>((Ch l m).1++[IT (l.getD m QT) (Ez (Ch l m).1 (l.getD m QT)) (EE l (l.getD m QT)) (C7 (Ch l m).2 (l.getD m QT)) (Dm l (l.getD m QT))],(Ch l m).2++[Lf l (l.getD m QT)])
def Ow(l:List V):List UInt8:=
 if EI l=true then
  if 4096<((Ch l l.length).1.getLastD []).length then []else if(CD ((Ch l l.length).1.getLastD [])).e=0/\(CD ((Ch l l.length).1.getLastD [])).ns=l then(Ch l l.length).1.getLastD []else []
 else []
def C6(s F:List UInt8):Prop:=(F.length<=4096->s=F)/\(4096<F.length->4096<s.length)
section
variable {s t F G:List UInt8}
theorem C6.refl(s:List UInt8):C6 s s:=⟨fun _=>rfl,fun h=>h⟩
theorem C6.cut(z:C6 s F):C6 (EJ s) F:=by
 refine⟨fun h=>?_,fun h=>?_⟩
 ·have:=z.1 h;subst this;unfold EJ;rw[AP (by omega)]
 ·have:=z.2 h;unfold EJ;split
  ·rw[Fw];omega
  ·exact this
theorem C6.app(z:C6 s F)(k:C6 t G):C6 (s++t) (F++G):=by
 refine⟨fun h=>?_,fun h=>?_⟩
 ·rw[BG]at h;rw[z.1 (by omega),k.1 (by omega)]
 ·rw[BG]at h⊢;by_cases I:4096<F.length
  ·have:=z.2 I;omega
  ·by_cases J:4096<G.length
   ·have:=k.2 J;omega
   ·rw[z.1 (by omega),k.1 (by omega)];exact h
theorem C6.lit(h:C6 s F)(u:List UInt8):C6 (s++u) (F++u):=h.app (.refl u)
theorem C6.pre(h:C6 s F)(u:List UInt8):C6 (u++s) (u++F):=(C6.refl u).app h
theorem C6.nil(h:C6 s F):s=[]↔F=[]:=by
 constructor
 ·intro e;subst e;by_cases z:4096<F.length
  ·have:=h.2 z;simp at this
  ·exact(h.1 (by omega)).symm
 ·intro e;subst e;exact h.1 (by simp)
theorem Lt:∀(z:List (List UInt8)) (b F:List UInt8),C6 b F->C6 (BQ b z) (F++z.flatten)
 |[],b,F,h=>by rw[List.flatten_nil,Fv];exact h
 |x::z,b,F,h=>by
  rw[QB,List.flatten_cons,<-List.append_assoc];refine Lt z _ _ ?_;unfold NP;refine⟨fun I=>?_,fun I=>?_⟩
  ·rw[BG]at I;have:=h.1 (by omega);subst this;rw[Ai (by omega),List.take_of_length_le (by omega)]
  ·rw[BG]at I;split
   ·rename_i J;have hF:F.length<=4096:=by
     apply Classical.byContradiction;intro K;have:=h.2 (by omega);omega
    have:=h.1 hF;subst this;rw[BG,Fw];omega
   ·rename_i J;omega
theorem Iw:∀(l:List (List UInt8)) (s F:List UInt8) (m:Bool),C6 s F->(m=true↔F≠[])->(∀x∈l,x≠[])->C6 (Ek s l) (F++(BM l m).flatten)/\(CA l m=true↔F++(BM l m).flatten≠[])
 |[],s,F,m,h,I,_=>by
  unfold Ek BM CA;simp only[List.foldl_nil,List.flatten_nil,Fv,List.isEmpty_nil,Bool.not_true,Bool.or_false];exact⟨h,I⟩
 |x::l,s,F,m,h,I,hx=>by
  have M:=hx x (En ..);have N:C6 (EJ (IB s x)) (F++((if m=true then [[32]]else [])++[x]).flatten):=by
   refine C6.cut ?_;unfold IB;by_cases hF:F=[]
   ·subst hF;rw[Ai (h.nil.2 rfl)];have:m=false:=(by cases m with|true=>exact Aj rfl (I.1 rfl)|false=>rfl);subst this;simp only[Bool.false_eq_true,if_false,List.nil_append,List.flatten_cons,List.flatten_nil,Fv];exact .refl x
   ·rw[AP (fun e=>hF (h.nil.1 e)),I.2 hF];simp only[if_true,List.flatten_cons,List.flatten_nil,Fv,List.cons_append,List.nil_append];have z:=(h.lit [32]).lit x;rw[List.append_assoc]at z;simpa using z
  have O:(F++((if m=true then [[32]]else [])++[x]).flatten)≠[]:=by
   intro e;have J:=(List.append_eq_nil_iff.1 e).2;rw[GB]at J;have K:=(List.append_eq_nil_iff.1 J).2;simp at K;exact M K
  obtain⟨L,z⟩:=Iw l _ _ true N ⟨fun _=>O,fun _=>rfl⟩ (fun y hy=>hx y (List.mem_cons_of_mem _ hy));have e:(F++((if m=true then [[32]]else [])++[x]).flatten)++(BM l true).flatten=F++(BM (x::l) m).flatten:=by
   rw[BM];simp[List.append_assoc]
  rw[e]at L z;refine⟨L,?_⟩;have:CA (x::l) m=CA l true:=(by unfold CA;simp);rw[this];exact z
theorem NI:∀(l:List (List UInt8)) (s F:List UInt8),C6 s F->C6 (Kr s l) (F++(BM l true).flatten)
 |[],s,F,h=>by
  unfold Kr BM;simpa using h
 |x::l,s,F,h=>by
  have:=NI l (EJ (s++[32]++x)) (F++[32]++x) (((h.lit [32]).lit x).cut);have e:F++[32]++x++(BM l true).flatten=F++(BM (x::l) true).flatten:=by
   rw[BM];simp
  rw[e]at this;exact this
theorem Mj(s:List UInt8):∀(p:List (List UInt8)),Gl s p p.length=s++Cs p:=by
 have z:∀(p:List (List UInt8)) (m:Nat),m<=p.length->Gl s p m=s++Cs (p.take m):=by
  intro p m;induction m with
  |zero=>intro _;unfold Gl;simp[Cs]
  |succ m ih=>
   intro N;have h:m<p.length:=(by omega);have I:p.getD m []=p[m]:=(by simp[h]);rw[Gl,ih (by omega),I,Du h];have J:∀(q:List (List UInt8)) (x:List UInt8),Cs (q++[x])=(if q=[]then x else Cs q++[32,124,32]++x):=by
    intro q x;induction q with
    |nil=>rfl
    |cons a q K=>
     cases q with
     |nil=>simp[Cs]
     |cons b q=>
      have L:Cs ((a::b::q)++[x])=a++[32,124,32]++Cs ((b::q)++[x]):=rfl;rw[L,K];simp[Cs]
   rw[J];by_cases M:0<m
   ·rw[Ai M,AP (by intro e;have:=congrArg List.length e;rw[Fw,CU]at this;omega)];simp[List.append_assoc]
   ·have:m=0:=(by omega);subst this;rw[AP (by omega),List.take_zero,Ai rfl];simp[Cs]
 intro p;have:=z p p.length (BN _);rwa [Dw]at this
end
end
section
open Lx Proofs.Tryz
structure L9(n:V):Prop where
 kind:1<=n.kind/\n.kind<=15
 cmd:n.kind=1->(∀s∈n.AZ,s≠[])/\(∀s∈n.words,s≠[])/\n.AZ.length+n.words.length+n.AK.length≠0
 DJ:∀r∈n.AK,r.op≠[]
 kids:3<=n.kind/\n.kind<=6->n.kids≠[]
theorem Xc{n:V}{t:List (List UInt8)}{h amp:List Bool}{z:Bool}(F:n.kind=1):CT n t h amp z=Ek (Ek [] n.AZ) n.words:=by
 unfold CT;rw[Ai F]
theorem YO{l:List V}{rec:Nat->List (List UInt8)}{n:V}(h:n.kind=1):Ap l rec n=BM n.AZ false++BM n.words (CA n.AZ false):=by
 unfold Ap;rw[Ai h]
theorem XU{n:V}{t:List (List UInt8)}{z amp:List Bool}{F:Bool}(h:n.kind=2):CT n t z amp F=[33,32]++t.getD 0 []:=by
 unfold CT;rw[AP (by rw[h];decide),Ai h]
theorem Xd{l:List V}{rec:Nat->List (List UInt8)}{n:V}(h:n.kind=2):Ap l rec n=[[33,32]]++Cm rec n 0:=by
 unfold Ap;rw[AP (by rw[h];decide),Ai h]
theorem XC{n:V}{t:List (List UInt8)}{z amp:List Bool}{F:Bool}(h:n.kind=7):CT n t z amp F=t.getD 0 []++[32,38]:=by
 unfold CT;rw[AP (by rw[h];decide),AP (by rw[h];decide),Ai h]
theorem Xb{l:List V}{rec:Nat->List (List UInt8)}{n:V}(h:n.kind=7):Ap l rec n=Cm rec n 0++[[32,38]]:=by
 unfold Ap;rw[AP (by rw[h];decide),AP (by rw[h];decide),Ai h]
theorem XF{n:V}{t:List (List UInt8)}{z amp:List Bool}{F:Bool}(h:n.kind=3):CT n t z amp F=DE t [32,124,32] t.length:=by
 unfold CT;rw[AP (by rw[h];decide),AP (by rw[h];decide),AP (by rw[h];decide),Ai h]
theorem XK{l:List V}{rec:Nat->List (List UInt8)}{n:V}(h:n.kind=3):Ap l rec n=DH rec n [32,124,32] n.kids.length:=by
 unfold Ap;rw[AP (by rw[h];decide),AP (by rw[h];decide),AP (by rw[h];decide),Ai h]
theorem Wx{n:V}{t:List (List UInt8)}{z amp:List Bool}{F:Bool}(h:n.kind=4):CT n t z amp F=DE t [32,38,38,32] t.length:=by
 unfold CT;rw[AP (by rw[h];decide),AP (by rw[h];decide),AP (by rw[h];decide),AP (by rw[h];decide),Ai h]
theorem Wy{l:List V}{rec:Nat->List (List UInt8)}{n:V}(h:n.kind=4):Ap l rec n=DH rec n [32,38,38,32] n.kids.length:=by
 unfold Ap;rw[AP (by rw[h];decide),AP (by rw[h];decide),AP (by rw[h];decide),AP (by rw[h];decide),Ai h]
theorem Xh{n:V}{t:List (List UInt8)}{z amp:List Bool}{F:Bool}(h:n.kind=5):CT n t z amp F=DE t [32,124,124,32] t.length:=by
 unfold CT;rw[AP (by rw[h];decide),AP (by rw[h];decide),AP (by rw[h];decide),AP (by rw[h];decide),AP (by rw[h];decide),Ai h]
theorem XV{l:List V}{rec:Nat->List (List UInt8)}{n:V}(h:n.kind=5):Ap l rec n=DH rec n [32,124,124,32] n.kids.length:=by
 unfold Ap;rw[AP (by rw[h];decide),AP (by rw[h];decide),AP (by rw[h];decide),AP (by rw[h];decide),AP (by rw[h];decide),Ai h]
theorem Xm{n:V}{t:List (List UInt8)}{z amp:List Bool}{F:Bool}(h:n.kind=6):CT n t z amp F=I1 t z t.length:=by
 unfold CT;rw[AP (by rw[h];decide),AP (by rw[h];decide),AP (by rw[h];decide),AP (by rw[h];decide),AP (by rw[h];decide),AP (by rw[h];decide),Ai h]
theorem Xi{l:List V}{rec:Nat->List (List UInt8)}{n:V}(h:n.kind=6):Ap l rec n=Ib l rec n n.kids.length:=by
 unfold Ap;rw[AP (by rw[h];decide),AP (by rw[h];decide),AP (by rw[h];decide),AP (by rw[h];decide),AP (by rw[h];decide),AP (by rw[h];decide),Ai h]
theorem XT{n:V}{t:List (List UInt8)}{z amp:List Bool}{F:Bool}(h:n.kind=8):CT n t z amp F=[123,32]++C0 (t.getD 0 []) (amp.getD 0 false)++[125]:=by
 unfold CT;rw[AP (by rw[h];decide),AP (by rw[h];decide),AP (by rw[h];decide),AP (by rw[h];decide),AP (by rw[h];decide),AP (by rw[h];decide),AP (by rw[h];decide),Ai h]
theorem XO{l:List V}{rec:Nat->List (List UInt8)}{n:V}(h:n.kind=8):Ap l rec n=[[123,32]]++Bj l rec n 0++[[125]]:=by
 unfold Ap;rw[AP (by rw[h];decide),AP (by rw[h];decide),AP (by rw[h];decide),AP (by rw[h];decide),AP (by rw[h];decide),AP (by rw[h];decide),AP (by rw[h];decide),Ai h]
theorem Xg{n:V}{t:List (List UInt8)}{z amp:List Bool}{F:Bool}(h:n.kind=9):CT n t z amp F=[40,32]++t.getD 0 []++[32,41]:=by
 unfold CT;rw[AP (by rw[h];decide),AP (by rw[h];decide),AP (by rw[h];decide),AP (by rw[h];decide),AP (by rw[h];decide),AP (by rw[h];decide),AP (by rw[h];decide),AP (by rw[h];decide),Ai h]
theorem XJ{l:List V}{rec:Nat->List (List UInt8)}{n:V}(h:n.kind=9):Ap l rec n=[[40,32]]++Cm rec n 0++[[32,41]]:=by
 unfold Ap;rw[AP (by rw[h];decide),AP (by rw[h];decide),AP (by rw[h];decide),AP (by rw[h];decide),AP (by rw[h];decide),AP (by rw[h];decide),AP (by rw[h];decide),AP (by rw[h];decide),Ai h]
theorem Pf{n:V}{t:List (List UInt8)}{F amp:List Bool}{z:Bool}(h:n.kind=10):CT n t F amp z=[105,102,32]++C0 (t.getD 0 []) (amp.getD 0 false)++[116,104,101,110,32]++C0 (t.getD 1 []) (amp.getD 1 false)++(if z=true then [101,108]++t.getD 2 []else if 2<t.length then [101,108,115,101,32]++C0 (t.getD 2 []) (amp.getD 2 false)++[102,105]else [102,105]):=by
 unfold CT;rw[AP (by rw[h];decide),AP (by rw[h];decide),AP (by rw[h];decide),AP (by rw[h];decide),AP (by rw[h];decide),AP (by rw[h];decide),AP (by rw[h];decide),AP (by rw[h];decide),AP (by rw[h];decide),Ai h]
theorem U9{l:List V}{rec:Nat->List (List UInt8)}{n:V}(h:n.kind=10):Ap l rec n=[[105,102,32]]++Bj l rec n 0++[[116,104,101,110,32]]++Bj l rec n 1++(if Dm l n=true then [[101,108]]++Cm rec n 2 else if 2<n.kids.length then [[101,108,115,101,32]]++Bj l rec n 2++[[102,105]]else [[102,105]]):=by
 unfold Ap;rw[AP (by rw[h];decide),AP (by rw[h];decide),AP (by rw[h];decide),AP (by rw[h];decide),AP (by rw[h];decide),AP (by rw[h];decide),AP (by rw[h];decide),AP (by rw[h];decide),AP (by rw[h];decide),Ai h]
theorem Uw{n:V}{t:List (List UInt8)}{z amp:List Bool}{F:Bool}(h:n.kind=11):CT n t z amp F=[119,104,105,108,101,32]++C0 (t.getD 0 []) (amp.getD 0 false)++[100,111,32]++C0 (t.getD 1 []) (amp.getD 1 false)++[100,111,110,101]:=by
 unfold CT;rw[AP (by rw[h];decide),AP (by rw[h];decide),AP (by rw[h];decide),AP (by rw[h];decide),AP (by rw[h];decide),AP (by rw[h];decide),AP (by rw[h];decide),AP (by rw[h];decide),AP (by rw[h];decide),AP (by rw[h];decide),Ai h]
theorem Ux{l:List V}{rec:Nat->List (List UInt8)}{n:V}(h:n.kind=11):Ap l rec n=[[119,104,105,108,101,32]]++Bj l rec n 0++[[100,111,32]]++Bj l rec n 1++[[100,111,110,101]]:=by
 unfold Ap;rw[AP (by rw[h];decide),AP (by rw[h];decide),AP (by rw[h];decide),AP (by rw[h];decide),AP (by rw[h];decide),AP (by rw[h];decide),AP (by rw[h];decide),AP (by rw[h];decide),AP (by rw[h];decide),AP (by rw[h];decide),Ai (.inl h),Ai h]
theorem VF{n:V}{t:List (List UInt8)}{z amp:List Bool}{F:Bool}(h:n.kind=12):CT n t z amp F=[117,110,116,105,108,32]++C0 (t.getD 0 []) (amp.getD 0 false)++[100,111,32]++C0 (t.getD 1 []) (amp.getD 1 false)++[100,111,110,101]:=by
 unfold CT;rw[AP (by rw[h];decide),AP (by rw[h];decide),AP (by rw[h];decide),AP (by rw[h];decide),AP (by rw[h];decide),AP (by rw[h];decide),AP (by rw[h];decide),AP (by rw[h];decide),AP (by rw[h];decide),AP (by rw[h];decide),AP (by rw[h];decide),Ai h]
theorem VL{l:List V}{rec:Nat->List (List UInt8)}{n:V}(h:n.kind=12):Ap l rec n=[[117,110,116,105,108,32]]++Bj l rec n 0++[[100,111,32]]++Bj l rec n 1++[[100,111,110,101]]:=by
 unfold Ap;rw[AP (by rw[h];decide),AP (by rw[h];decide),AP (by rw[h];decide),AP (by rw[h];decide),AP (by rw[h];decide),AP (by rw[h];decide),AP (by rw[h];decide),AP (by rw[h];decide),AP (by rw[h];decide),AP (by rw[h];decide),Ai (.inr h),AP (by rw[h];decide)]
theorem SP{n:V}{t:List (List UInt8)}{z amp:List Bool}{F:Bool}(h:n.kind=13):CT n t z amp F=(if n.A7=true then Kr ([102,111,114,32]++n.name++[32,105,110]) n.words else [102,111,114,32]++n.name)++[59,32,100,111,32]++C0 (t.getD 0 []) (amp.getD 0 false)++[100,111,110,101]:=by
 unfold CT;rw[AP (by rw[h];decide),AP (by rw[h];decide),AP (by rw[h];decide),AP (by rw[h];decide),AP (by rw[h];decide),AP (by rw[h];decide),AP (by rw[h];decide),AP (by rw[h];decide),AP (by rw[h];decide),AP (by rw[h];decide),AP (by rw[h];decide),AP (by rw[h];decide),Ai h]
theorem VH{l:List V}{rec:Nat->List (List UInt8)}{n:V}(h:n.kind=13):Ap l rec n=[[102,111,114,32],n.name]++(if n.A7=true then [[32,105,110]]++BM n.words true else [])++[[59,32,100,111,32]]++Bj l rec n 0++[[100,111,110,101]]:=by
 unfold Ap;rw[AP (by rw[h];decide),AP (by rw[h];decide),AP (by rw[h];decide),AP (by rw[h];decide),AP (by rw[h];decide),AP (by rw[h];decide),AP (by rw[h];decide),AP (by rw[h];decide),AP (by rw[h];decide),AP (by rw[h];decide),AP (by rw[h];decide),Ai h]
theorem VI{n:V}{t:List (List UInt8)}{z amp:List Bool}{F:Bool}(h:n.kind=14):CT n t z amp F=casT n t n.AT.length++[32,101,115,97,99]:=by
 unfold CT;rw[AP (by rw[h];decide),AP (by rw[h];decide),AP (by rw[h];decide),AP (by rw[h];decide),AP (by rw[h];decide),AP (by rw[h];decide),AP (by rw[h];decide),AP (by rw[h];decide),AP (by rw[h];decide),AP (by rw[h];decide),AP (by rw[h];decide),AP (by rw[h];decide),AP (by rw[h];decide),Ai h]
theorem VD{l:List V}{rec:Nat->List (List UInt8)}{n:V}(h:n.kind=14):Ap l rec n=Gc rec n:=by
 unfold Ap;rw[AP (by rw[h];decide),AP (by rw[h];decide),AP (by rw[h];decide),AP (by rw[h];decide),AP (by rw[h];decide),AP (by rw[h];decide),AP (by rw[h];decide),AP (by rw[h];decide),AP (by rw[h];decide),AP (by rw[h];decide),AP (by rw[h];decide),AP (by rw[h];decide),Ai h]
theorem Uu{n:V}{t:List (List UInt8)}{z amp:List Bool}{F:Bool}(h:n.kind=15):CT n t z amp F=n.name++[40,41,32]++t.getD 0 []:=by
 unfold CT;rw[AP (by rw[h];decide),AP (by rw[h];decide),AP (by rw[h];decide),AP (by rw[h];decide),AP (by rw[h];decide),AP (by rw[h];decide),AP (by rw[h];decide),AP (by rw[h];decide),AP (by rw[h];decide),AP (by rw[h];decide),AP (by rw[h];decide),AP (by rw[h];decide),AP (by rw[h];decide),AP (by rw[h];decide),Ai h]
theorem U8{l:List V}{rec:Nat->List (List UInt8)}{n:V}(h:n.kind=15):Ap l rec n=[n.name,[40,41,32]]++Cm rec n 0:=by
 unfold Ap;rw[AP (by rw[h];decide),AP (by rw[h];decide),AP (by rw[h];decide),AP (by rw[h];decide),AP (by rw[h];decide),AP (by rw[h];decide),AP (by rw[h];decide),AP (by rw[h];decide),AP (by rw[h];decide),AP (by rw[h];decide),AP (by rw[h];decide),AP (by rw[h];decide),AP (by rw[h];decide),Ai h]
section
variable {l:List V}{rec:Nat->List (List UInt8)}{n:V}{all:List (List UInt8)}{ends:List Bool}
structure Er(l:List V)(rec:Nat->List (List UInt8))(n:V)(all:List (List UInt8))(ends:List Bool):Prop where
 ok:∀k∈n.kids,(k= -1/\n.kind=14)\/0<=k
 Oz:∀k∈n.kids,0<=k->C6 (all.getD k.toNat []) (rec k.toNat).flatten/\(rec k.toNat).flatten≠[]
 ends:∀k∈n.kids,0<=k->ends.getD k.toNat false=El l k
theorem Nt(i:Nat):(Ez all n).getD i []=match n.kids[i]? with|some k=>if k<0 then []else all.getD k.toNat []|none=>[]:=by
 unfold Ez;rw[EK,II];cases n.kids[i]? <;>rfl
theorem Ia:(Ez all n).length=n.kids.length:=by unfold Ez;rw[List.length_map]
theorem F9{α:Type}{l:List α}{i:Nat}{k:α}(h:l[i]? =some k):k∈l:=List.mem_of_getElem? h
theorem Er.O9(z:Er l rec n all ends)(i:Nat):C6 ((Ez all n).getD i []) (Cm rec n i).flatten:=by
 rw[Nt];unfold Cm;cases hk:n.kids[i]? with
 |none=>exact .refl []
 |some k=>
  simp only[];by_cases h:0<=k
  ·rw[AP (by omega),Ai h];exact(z.Oz k (F9 hk) h).1
  ·rw[Ai (by omega),AP h];exact .refl []
theorem Er.amp(h:Er l rec n all ends)(i:Nat):Le ((C7 ends n).getD i false)=(Mo l n i).flatten++[32]:=by
 unfold C7 Mo;rw[EK,II];cases hk:n.kids[i]? with
 |none=>rfl
 |some k=>
  show Le (if k<0 then false else ends.getD k.toNat false)=(if El l k=true then([]:List (List UInt8))else [[59]]).flatten++[32];by_cases z:0<=k
  ·rw[AP (by omega),h.ends k (F9 hk) z];cases El l k<;>rfl
  ·rw[Ai (by omega)];have:El l k=false:=(by unfold El;rw[Ai (by omega)]);rw[this];rfl
theorem Er.list(h:Er l rec n all ends)(i:Nat):C6 (C0 ((Ez all n).getD i []) ((C7 ends n).getD i false)) (Bj l rec n i).flatten:=by
 unfold C0 Bj;rw[h.amp i,GB,GB,List.append_assoc];exact(h.O9 i).app (.refl _)
theorem Er.pos(F:Er l rec n all ends)(i:Nat)(h:i<n.kids.length)(I:n.kind≠14):(Cm rec n i).flatten≠[]:=by
 unfold Cm;rw[CZ h];simp only[];have G:0<=n.kids[i]:=by
  rcases F.ok _ (Cp h)with z|z
  ·exact Aj z.2 I
  ·exact z
 rw[Ai G];exact(F.Oz _ (Cp h) G).2
theorem Er.Nw(F:Er l rec n all ends)(h:List UInt8):∀m,C6 (DE (Ez all n) h m) (DH rec n h m).flatten
 |0=> .refl []
 |m+1=>by
  rw[DE,DH,GB,GB];refine(C6.app ?_ (F.O9 m)).cut;by_cases z:0<m
  ·rw[Ai z,Ai z];simpa using(F.Nw h m).lit h
  ·rw[AP z,AP z];simpa using F.Nw h m
theorem Er.Wg(h:Er l rec n all ends)(G:n.kind≠14):∀m,m<=n.kids.length->C6 (I1 (Ez all n) (EE l n) m) (Ib l rec n m).flatten
 |0,_=> .refl []
 |m+1,L=>by
  rw[I1,Ib,GB,GB];refine(C6.app ?_ (h.O9 m)).cut;by_cases z:0<m
  ·rw[Ai z,Ai z];have e:Le ((EE l n).getD (m-1) false)=(Mh l n m).flatten:=by
    have I:m-1<n.kids.length:=(by omega);unfold EE Mh;rw[EK,II,CZ I];have K:n.kids.getD (m-1) 0=n.kids[m-1]:=(by simp[I]);rw[K];show Le (if n.kids[m-1]<0 then false else _)=_;have M:0<=n.kids[m-1]:=by
     rcases h.ok _ (Cp I)with J|J
     ·exact Aj J.2 G
     ·exact J
    rw[AP (by omega)];by_cases F:(Jv l n.kids[m-1]).kind=7
    ·rw[Ai F,F];rfl
    ·rw[AP F,show((Jv l n.kids[m-1]).kind==7)=false from Bd F];rfl
   rw[e];exact(h.Wg G m (by omega)).app (.refl _)
  ·rw[AP z,AP z];simpa using h.Wg G m (by omega)
theorem Er.AT(F:Er l rec n all ends):∀m,m<=n.AT.length->C6 (casT n (Ez all n) m) ([[99,97,115,101,32],n.words.headD [],[32,105,110]]++Fm rec n m).flatten
 |0,_=>by
  rw[casT,Fm];simp only[Fv,List.flatten_cons,List.flatten_nil];rw[List.append_assoc];exact .refl _
 |m+1,L=>by
  rw[casT,Fm,Mj];have ih:=F.AT m (by omega);have e:∀G:List (List UInt8),([[99,97,115,101,32],n.words.headD [],[32,105,110]]++(Fm rec n m++[[32,40],Cs (n.AT.getD m []),[41]]++G++[[59,59]])).flatten=([[99,97,115,101,32],n.words.headD [],[32,105,110]]++Fm rec n m).flatten++[32,40]++Cs (n.AT.getD m [])++[41]++G.flatten++[59,59]:=by
   intro G;simp[List.append_assoc]
  rw[e];refine(C6.app ?_ (.refl [59,59])).cut;have I:=((ih.lit [32,40]).lit (Cs (n.AT.getD m []))).lit [41];have h:=F.O9 m;rw[Nt]at h⊢;unfold Cm at h;cases hk:n.kids[m]? with
  |none=>
   simp only[ne_eq,not_true_eq_false,if_false,List.flatten_nil,Fv];exact I
  |some k=>
   simp only[hk]at h;simp only[];by_cases z:0<=k
   ·rw[AP (by omega),Ai z]at h;have J:all.getD k.toNat []≠[]:=fun x=>(F.Oz k (F9 hk) z).2 (h.nil.1 x)
    rw[AP (show¬k<0 by omega),Ai J,Ai z];have K:=(I.lit [32]).app h;rw[show(([[32]]:List (List UInt8))++rec k.toNat).flatten=[32]++(rec k.toNat).flatten from rfl,<-List.append_assoc];exact K
   ·rw[Ai (show k<0 by omega),AP (by simp),AP z,List.flatten_nil,Fv];exact I
theorem Er.body(h:Er l rec n all ends)(M:L9 n):C6 (CT n (Ez all n) (EE l n) (C7 ends n) (Dm l n)) (Ap l rec n).flatten/\(Bg n=true↔(Ap l rec n).flatten≠[]):=by
 have hk:n.kind=1\/n.kind=2\/n.kind=3\/n.kind=4\/n.kind=5\/n.kind=6\/n.kind=7\/n.kind=8\/n.kind=9\/n.kind=10\/n.kind=11\/n.kind=12\/n.kind=13\/n.kind=14\/n.kind=15:=(by have:=M.kind;omega);have F:n.kind≠1->(Ap l rec n).flatten≠[]->(Bg n=true↔(Ap l rec n).flatten≠[]):=fun W I=>by
  unfold Bg;rw[AP W];exact⟨fun _=>I,fun _=>rfl⟩
 have last:∀(m:Nat) (u:List UInt8),m+1=n.kids.length->n.kind≠14->(DH rec n u (m+1)).flatten≠[]:=fun m u J z e=>by
  rw[DH,GB]at e;exact h.pos m (by omega) z (List.append_eq_nil_iff.1 e).2
 have K:3<=n.kind/\n.kind<=6-> ∃m,m+1=n.kids.length:=fun X=>⟨n.kids.length-1,by have:=List.length_pos_iff.2 (M.kids X);omega⟩
 rcases hk with hk|hk|hk|hk|hk|hk|hk|hk|hk|hk|hk|hk|hk|hk|hk
 ·obtain⟨aa,ab,_⟩:=M.cmd hk;rw[Xc hk,YO hk,GB];obtain⟨N,O⟩:=Iw n.AZ [] [] false (.refl []) ⟨fun h=>(by cases h),fun h=>Aj rfl h⟩ aa;rw[List.nil_append]at N O;obtain⟨ac,ad⟩:=Iw n.words _ _ (CA n.AZ false) N O ab;refine⟨ac,?_⟩;unfold Bg;rw[Ai hk];exact ad
 ·have z:n.kind≠14:=(by omega);refine⟨?_,F (by omega) (by rw[Xd hk];simp)⟩;rw[XU hk,Xd hk];simp only[GB,List.flatten_cons,List.flatten_nil,Fv];exact(h.O9 0).pre _
 ·have z:n.kind≠14:=(by omega);obtain⟨m,G⟩:=K (by omega);refine⟨?_,F (by omega) (by rw[XK hk,<-G];exact last m _ G z)⟩;rw[XF hk,XK hk];rw[Ia];exact h.Nw [32,124,32] _
 ·have z:n.kind≠14:=(by omega);obtain⟨m,G⟩:=K (by omega);refine⟨?_,F (by omega) (by rw[Wy hk,<-G];exact last m _ G z)⟩;rw[Wx hk,Wy hk];rw[Ia];exact h.Nw [32,38,38,32] _
 ·have z:n.kind≠14:=(by omega);obtain⟨m,G⟩:=K (by omega);refine⟨?_,F (by omega) (by rw[XV hk,<-G];exact last m _ G z)⟩;rw[Xh hk,XV hk];rw[Ia];exact h.Nw [32,124,124,32] _
 ·have z:n.kind≠14:=(by omega);obtain⟨m,G⟩:=K (by omega);refine⟨?_,F (by omega) (by
   rw[Xi hk,<-G,Ib,GB];intro e;exact h.pos m (by omega) z (List.append_eq_nil_iff.1 e).2)⟩
  rw[Xm hk,Xi hk,Ia];exact h.Wg z _ (BN _)
 ·have z:n.kind≠14:=(by omega);refine⟨?_,F (by omega) (by rw[Xb hk];simp)⟩;rw[XC hk,Xb hk];simp only[GB,List.flatten_cons,List.flatten_nil,Fv];exact(h.O9 0).lit _
 ·have z:n.kind≠14:=(by omega);refine⟨?_,F (by omega) (by rw[XO hk];simp)⟩;rw[XT hk,XO hk];simp only[GB,List.flatten_cons,List.flatten_nil,Fv];exact((h.list 0).pre _).lit _
 ·have z:n.kind≠14:=(by omega);refine⟨?_,F (by omega) (by rw[XJ hk];simp)⟩;rw[Xg hk,XJ hk];simp only[GB,List.flatten_cons,List.flatten_nil,Fv];exact((h.O9 0).pre _).lit _
 ·have z:n.kind≠14:=(by omega);refine⟨?_,F (by omega) (by rw[U9 hk];simp)⟩;rw[Pf hk,U9 hk];rw[Ia];simp only[GB,List.flatten_cons,List.flatten_nil,Fv];refine C6.app ((((h.list 0).pre _).lit _).app (h.list 1)) ?_;by_cases J:Dm l n=true
  ·rw[Ai J,Ai J];simp only[GB,List.flatten_cons,List.flatten_nil,Fv];exact(h.O9 2).pre _
  ·rw[AP J,AP J];by_cases I:2<n.kids.length
   ·rw[Ai I,Ai I];simp only[GB,List.flatten_cons,List.flatten_nil,Fv];exact((h.list 2).pre _).lit _
   ·rw[AP I,AP I];exact .refl _
 ·have z:n.kind≠14:=(by omega);refine⟨?_,F (by omega) (by rw[Ux hk];simp)⟩;rw[Uw hk,Ux hk];simp only[GB,List.flatten_cons,List.flatten_nil,Fv];exact((((h.list 0).pre _).lit _).app (h.list 1)).lit _
 ·have z:n.kind≠14:=(by omega);refine⟨?_,F (by omega) (by rw[VL hk];simp)⟩;rw[VF hk,VL hk];simp only[GB,List.flatten_cons,List.flatten_nil,Fv];exact((((h.list 0).pre _).lit _).app (h.list 1)).lit _
 ·have z:n.kind≠14:=(by omega);refine⟨?_,F (by omega) (by rw[VH hk];simp)⟩;rw[SP hk,VH hk];simp only[GB,List.flatten_cons,List.flatten_nil,Fv];refine(((C6.app ?_ (.refl _)).app (h.list 0)).lit _);by_cases L:n.A7=true
  ·rw[Ai L,Ai L];have:=NI n.words _ _ (C6.refl ([102,111,114,32]++n.name++[32,105,110]));simpa [List.append_assoc]using this
  ·rw[AP L,AP L];simp only[List.flatten_nil,Fv];exact .refl _
 ·skip
  refine⟨?_,F (by omega) (by rw[VD hk];unfold Gc;simp)⟩;rw[VI hk,VD hk];unfold Gc;rw[GB];simpa using(h.AT n.AT.length (BN _)).lit [32,101,115,97,99]
 ·have z:n.kind≠14:=(by omega);refine⟨?_,F (by omega) (by rw[U8 hk];simp)⟩;rw[Uu hk,U8 hk];simp only[GB,List.flatten_cons,List.flatten_nil,Fv];exact(h.O9 0).pre _
theorem Er.text(I:Er l rec n all ends)(h:L9 n):C6 (IT n (Ez all n) (EE l n) (C7 ends n) (Dm l n)) (Ap l rec n++BM (n.AK.map D6) (Bg n)).flatten/\(Ap l rec n++BM (n.AK.map D6) (Bg n)).flatten≠[]:=by
 obtain⟨J,K⟩:=I.body h;have z:∀x∈n.AK.map D6,x≠[]:=fun x hx=>by
  obtain⟨r,z,rfl⟩:=List.mem_map.1 hx;unfold D6;intro e;have F:=(List.append_eq_nil_iff.1 e).2;exact h.DJ r z (List.append_eq_nil_iff.1 F).1
 obtain⟨F,L⟩:=Iw _ _ _ (Bg n) J K z;rw[GB];refine⟨F.cut,L.1 ?_⟩;unfold CA;by_cases hk:n.kind=1
 ·have G:=(h.cmd hk).2.2;unfold Bg;rw[Ai hk];unfold CA;cases hs:n.AZ with
  |cons a s=>simp
  |nil=>
   cases M:n.words with
   |cons a s=>simp
   |nil=>
    cases N:n.AK with
    |cons a s=>simp
    |nil=>rw[hs,M,N]at G;simp at G
 ·unfold Bg;rw[AP hk];rfl
end
end
section
open Lx Proofs.Tryz
section
variable {l:List V}{rec rec':Nat->List (List UInt8)}{n:V}
def Alike(n:V)(rec rec':Nat->List (List UInt8)):Prop:=∀k∈n.kids,0<=k->rec k.toNat=rec' k.toNat
theorem PK(z:Alike n rec rec')(i:Nat):Cm rec n i=Cm rec' n i:=by
 unfold Cm;cases hk:n.kids[i]? with
 |none=>rfl
 |some k=>
  simp only[];by_cases h:0<=k
  ·rw[Ai h,Ai h,z k (F9 hk) h]
  ·rw[AP h,AP h]
theorem WE(h:Alike n rec rec')(i:Nat):Bj l rec n i=Bj l rec' n i:=by unfold Bj;rw[PK h]
theorem S6(h:Alike n rec rec')(u:List UInt8):∀m,DH rec n u m=DH rec' n u m
 |0=>rfl
 |m+1=>by rw[DH,DH,S6 h u m,PK h]
theorem Uz(h:Alike n rec rec'):∀m,Ib l rec n m=Ib l rec' n m
 |0=>rfl
 |m+1=>by rw[Ib,Ib,Uz h m,PK h]
theorem RR(z:Alike n rec rec'):∀m,Fm rec n m=Fm rec' n m
 |0=>rfl
 |m+1=>by
  rw[Fm,Fm,RR z m];cases hk:n.kids[m]? with
  |none=>rfl
  |some k=>
   simp only[];by_cases h:0<=k
   ·rw[Ai h,Ai h,z k (F9 hk) h]
   ·rw[AP h,AP h]
theorem Vb(h:Alike n rec rec'):Ap l rec n=Ap l rec' n:=by
 unfold Ap Gc;simp only[PK h,WE h,S6 h,Uz h,RR h]
end
theorem JT(l:List V)(i:Nat):Jv l (i:Int)=l.getD i QT:=by unfold Jv;rw[Int.toNat_natCast]
theorem MR{l:List V}(z:IS l):∀(i f g:Nat),i<f->i<g->i<l.length->Ay l f i=Ay l g i:=by
 intro i;induction i using Nat.strongRecOn with
 |_ i ih=>
  intro f g J K h;obtain⟨f,rfl⟩:∃F,f=F+1:=⟨f-1,by omega⟩;obtain⟨g,rfl⟩:∃G,g=G+1:=⟨g-1,by omega⟩;rw[Ay,Ay];have I:Jv l i=l[i]:=(by rw[JT];simp[h]);rw[Vb (rec':=Ay l g)];intro k hk L;rw[I]at hk;rcases z i h k hk with⟨M,_⟩|⟨_,N⟩
  ·omega
  ·exact ih k.toNat (by omega) f g (by omega) (by omega) (by omega)
structure Xw(l:List V)(m:Nat):Prop where
 l1:(Ch l m).1.length=m
 l2:(Ch l m).2.length=m
 Oz:∀i,i<m->C6 ((Ch l m).1.getD i []) (Ay l (i+1) i).flatten/\(Ay l (i+1) i).flatten≠[]
 ends:∀i,i<m->(Ch l m).2.getD i false=El l (i:Int)
theorem SR{l:List V}(G:IS l)(i:Nat)(F:i<l.length):Lf l l[i]=El l (i:Int):=by
 unfold Lf El EE;rw[AP (by omega),JT];have I:l.getD i QT=l[i]:=(by simp[F]);rw[I];simp only[];cases hk:l[i].kids.getLast? with
 |none=>
  have h:l[i].kids=[]:=(by simpa using hk);rw[h];simp
 |some k=>
  have J:k∈l[i].kids:=List.mem_of_getLast? hk;have K:(l[i].kids.map fun k=>if k<0 then false else(Jv l k).kind==7).getLastD false=(if k<0 then false else(Jv l k).kind==7):=by
   rw[List.getLastD_eq_getLast?,List.getLast?_map,hk];rfl
  rw[K];show _=(if l[i].kind=6 then(Jv l k).kind==7 else l[i].kind==7);by_cases z:l[i].kind=6
  ·have h:¬k<0:=by
    rcases G i F k J with⟨_,L⟩|⟨L,_⟩
    ·omega
    ·omega
   rw[AP h,z];simp
  ·rw[AP z,show(l[i].kind==6)=false from Bd z];simp
theorem VO{l:List V}(h:IS l)(K:∀n∈l,L9 n):∀m,m<=l.length->Xw l m
 |0,_=>⟨rfl,rfl,fun i F=>Aj F (Nat.not_lt_zero _),fun i F=>Aj F (Nat.not_lt_zero _)⟩
 |m+1,ab=>by
  have ih:=VO h K m (by omega);have z:m<l.length:=(by omega);have I:l.getD m QT=l[m]:=(by simp[z]);have L:Er l (Ay l m) l[m] (Ch l m).1 (Ch l m).2:=by
   refine⟨fun k hk=>?_,fun k hk M=>?_,fun k hk M=>?_⟩
   ·rcases h m z k hk with J|J
    ·exact .inl J
    ·exact .inr J.1
   ·rcases h m z k hk with⟨N,_⟩|⟨_,O⟩
    ·omega
    ·have W:=ih.Oz k.toNat (by omega);rw[MR h k.toNat m (k.toNat+1) (by omega) (by omega) (by omega)];exact W
   ·rcases h m z k hk with⟨N,_⟩|⟨_,O⟩
    ·omega
    ·rw[ih.ends k.toNat (by omega)];congr 1
     omega
  have X:=L.text (K _ (Cp z));have aa:Ay l (m+1) m=Ap l (Ay l m) l[m]++BM (l[m].AK.map D6) (Bg l[m]):=by
   rw[Ay,JT,I]
  refine⟨by rw[Ch];simp[ih.l1],by rw[Ch];simp[ih.l2],fun i F=>?_,fun i F=>?_⟩
  ·rw[Ch,I];by_cases G:i<m
   ·have e:((Ch l m).1++[IT l[m] (Ez (Ch l m).1 l[m]) (EE l l[m]) (C7 (Ch l m).2 l[m]) (Dm l l[m])]).getD i []=(Ch l m).1.getD i []:=by
     rw[EK,Gx (by rw[ih.l1];exact G),<-EK]
    rw[e];exact ih.Oz i G
   ·obtain rfl:i=m:=by omega
    have e:((Ch l i).1++[IT l[i] (Ez (Ch l i).1 l[i]) (EE l l[i]) (C7 (Ch l i).2 l[i]) (Dm l l[i])]).getD i []=IT l[i] (Ez (Ch l i).1 l[i]) (EE l l[i]) (C7 (Ch l i).2 l[i]) (Dm l l[i]):=by
     rw[EK,Ig (by rw[ih.l1];omega),ih.l1,Nat.sub_self];rfl
    rw[e,aa];exact X
  ·rw[Ch,I];by_cases G:i<m
   ·rw[EK,Gx (by rw[ih.l2];exact G),<-EK];exact ih.ends i G
   ·obtain rfl:i=m:=by omega
    rw[EK,Ig (by rw[ih.l2];omega),ih.l2,Nat.sub_self];exact SR h i z
theorem WQ{l:List V}(L:EI l=true->IS l/\1<=l.length)(M:∀s:List UInt8,(CD s).e=0-> ∀n∈(CD s).ns,L9 n):Ow l=E6 l:=by
 unfold Ow E6;by_cases h:EI l=true
 ·rw[Ai h,Ai h];obtain⟨G,W⟩:=L h;simp only[];by_cases I:∀n∈l,L9 n
  ·have J:=VO G I l.length (BN _);have z:=(J.Oz (l.length-1) (by omega)).1;rw[MR G (l.length-1) (l.length-1+1) l.length (by omega) (by omega) (by omega)]at z;have F:=Lt (Ay l l.length (l.length-1)) [] [] (.refl []);rw[List.nil_append]at F;have e:(Ch l l.length).1.getLastD []=(Ch l l.length).1.getD (l.length-1) []:=by
    rw[List.getLastD_eq_getLast?,List.getLast?_eq_getElem?,J.l1,EK]
   rw[e];by_cases hF:(Ay l l.length (l.length-1)).flatten.length<=4096
   ·rw[z.1 hF,F.1 hF]
   ·rw[Ai (z.2 (by omega)),Ai (F.2 (by omega))]
  ·have K:∀s:List UInt8,(if 4096<s.length then []else if(CD s).e=0/\(CD s).ns=l then s else [])=[]:=fun s=>by
    split
    ·rfl
    ·rw[AP];rintro⟨N,O⟩;exact I (O▸M s N)
   rw[K,K]
 ·rw[AP h,AP h]
end
open Lx Proofs.Tryz
theorem VT:∀s∈GJ,s≠[]:=by decide
theorem Ox(s:List UInt8):∀n∈(CD s).ns,L9 n:=by
 intro n F;have h:=Ns (Q:=fun _=>True) (P:=fun x=>x≠[]) (fun _ _=>trivial) trivial (s:=s) (fun ts G t I hk=>by
  have J:=(Ie G).2.w t I;rcases J with⟨z,_,_⟩|z
  ·omega
  ·rcases hk with hk|hk
   ·obtain⟨c,r,e,_⟩:=z.wd hk;rw[e];simp
   ·obtain⟨c,e,_⟩:=z.io hk;rw[e];simp) n F
 exact⟨h.kd.1,fun hk=>⟨h.AZ,h.words,h.kd.2.1 hk⟩,fun r K=>VT _ (h.AK r K).1,h.kd.2.2⟩
theorem TC{l:List V}(h:EI l=true->IS l/\1<=l.length):Ow l=E6 l:=WQ h fun s _=>Ox s
end Go.Proofs.YtdhfhphbkfgamaaGreat
