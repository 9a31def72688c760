/- PrintTells: a part of its proof. -/
import Derived.Test.YtdhfhphbkfgamaaGreatTq
set_option maxRecDepth 100000
namespace Go.Proofs.YtdhfhphbkfgamaaGreat
section
open Lx
def D6 (s:List UInt8):List UInt8:=if 8192<s.length then s.take 8192 else s
def Gp (s t:List UInt8):List UInt8:=if s=[]then t else s++[32]++t
def LG (amp:Bool):List UInt8:=if amp=true then [32]else [59,32]
def Cq (s:List UInt8) (amp:Bool):List UInt8:=s++LG amp
def Ea (s:List UInt8) (l:List (List UInt8)):List UInt8:=l.foldl (fun s x=>D6 (Gp s x)) s
def C6 (t:List (List UInt8)) (h:List UInt8):Nat→List UInt8
 |0=>[]
 |m+1=>D6 ((if 0<m then C6 t h m++h else C6 t h m)++t.getD m [])
def IU (t:List (List UInt8)) (h:List Bool):Nat→List UInt8
 |0=>[]
 |m+1=>D6 ((if 0<m then IU t h m++LG (h.getD (m-1) false)else IU t h m)++t.getD m [])
def Kv (s:List UInt8) (l:List (List UInt8)):List UInt8:=l.foldl (fun s x=>D6 (s++[32]++x)) s
def GS (s:List UInt8) (p:List (List UInt8)):Nat→List UInt8
 |0=>s
 |m+1=>(if 0<m then GS s p m++[32,124,32]else GS s p m)++p.getD m []
def casT (n:V) (t:List (List UInt8)):Nat→List UInt8
 |0=>[99,97,115,101,32]++n.words.headD []++[32,105,110]
 |m+1=>D6 ((if t.getD m []≠[]then GS (casT n t m++[32,40]) (n.AS.getD m []) (n.AS.getD m []).length++[41]++[32]++t.getD m []else GS (casT n t m++[32,40]) (n.AS.getD m []) (n.AS.getD m []).length++[41])++[59,59])
def CS (n:V) (t:List (List UInt8)) (h amp:List Bool) (z:Bool):List UInt8:=
 if n.kind=1 then Ea (Ea [] n.AY) n.words
 else if n.kind=2 then [33,32]++t.getD 0 []
 else if n.kind=7 then t.getD 0 []++[32,38]
 else if n.kind=3 then C6 t [32,124,32] t.length
 else if n.kind=4 then C6 t [32,38,38,32] t.length
 else if n.kind=5 then C6 t [32,124,124,32] t.length
 else if n.kind=6 then IU t h t.length
 else if n.kind=8 then [123,32]++Cq (t.getD 0 []) (amp.getD 0 false)++[125]
 else if n.kind=9 then [40,32]++t.getD 0 []++[32,41]
 else if n.kind=10 then [105,102,32]++Cq (t.getD 0 []) (amp.getD 0 false)++[116,104,101,110,32]++Cq (t.getD 1 []) (amp.getD 1 false)++
  (if z=true then [101,108]++t.getD 2 []else if 2<t.length then [101,108,115,101,32]++Cq (t.getD 2 []) (amp.getD 2 false)++[102,105]else [102,105])
 else if n.kind=11 then [119,104,105,108,101,32]++Cq (t.getD 0 []) (amp.getD 0 false)++[100,111,32]++Cq (t.getD 1 []) (amp.getD 1 false)++[100,111,110,101]
 else if n.kind=12 then [117,110,116,105,108,32]++Cq (t.getD 0 []) (amp.getD 0 false)++[100,111,32]++Cq (t.getD 1 []) (amp.getD 1 false)++[100,111,110,101]
 else if n.kind=13 then(if n.A5=true then Kv ([102,111,114,32]++n.name++[32,105,110]) n.words else [102,111,114,32]++n.name)++[59,32,100,111,32]++Cq (t.getD 0 []) (amp.getD 0 false)++[100,111,110,101]
 else if n.kind=14 then casT n t n.AS.length++[32,101,115,97,99]
 else if n.kind=15 then n.name++[40,41,32]++t.getD 0 []
 else []
def IC (n:V) (t:List (List UInt8)) (h amp:List Bool) (z:Bool):List UInt8:=D6 (Ea (CS n t h amp z) (n.AK.map Dh))
def Eg (h:List (List UInt8)) (n:V):List (List UInt8):=n.kids.map fun k=>if k<0 then []else h.getD k.toNat []
def Dz (l:List V) (n:V):List Bool:=n.kids.map fun k=>if k<0 then false else(JO l k).kind==7
def Cz (h:List Bool) (n:V):List Bool:=n.kids.map fun k=>if k<0 then false else h.getD k.toNat false
def LA (l:List V) (n:V):Bool:=n.kind==7||(n.kind==6&&(Dz l n).getLastD false)
def Ca (l:List V):Nat→List (List UInt8)×List Bool
 |0=>([],[])
 |m+1=>((Ca l m).1++[IC (l.getD m PV) (Eg (Ca l m).1 (l.getD m PV)) (Dz l (l.getD m PV)) (Cz (Ca l m).2 (l.getD m PV)) (Dc l (l.getD m PV))],(Ca l m).2++[LA l (l.getD m PV)])
def OZ (l:List V):List UInt8:=
 if D7 l=true then
  if 4096<((Ca l l.length).1.getLastD []).length then []else if(B9 ((Ca l l.length).1.getLastD [])).e=0∧(B9 ((Ca l l.length).1.getLastD [])).ns=l then(Ca l l.length).1.getLastD []else []
 else []
def Ct (s F:List UInt8):Prop:=(F.length≤4096→s=F)∧(4096<F.length→4096<s.length)
section
variable {s t F G:List UInt8}
theorem Ct.refl (s:List UInt8):Ct s s:=⟨fun _=>rfl,fun h=>h⟩
theorem Ct.cut (z:Ct s F):Ct (D6 s) F:=by
 refine⟨fun h=>?_,fun h=>?_⟩
 ·have:=z.1 h;subst this;unfold D6;rw[U (by omega)]
 ·have:=z.2 h;unfold D6;split
  ·rw[List.length_take];omega
  ·exact this
theorem Ct.app (z:Ct s F) (k:Ct t G):Ct (s++t) (F++G):=by
 refine⟨fun h=>?_,fun h=>?_⟩
 ·rw[BE]at h;rw[z.1 (by omega),k.1 (by omega)]
 ·rw[BE]at h⊢;by_cases I:4096<F.length
  ·have:=z.2 I;omega
  ·by_cases J:4096<G.length
   ·have:=k.2 J;omega
   ·rw[z.1 (by omega),k.1 (by omega)];exact h
theorem Ct.lit (h:Ct s F) (u:List UInt8):Ct (s++u) (F++u):=h.app (.refl u)
theorem Ct.pre (h:Ct s F) (u:List UInt8):Ct (u++s) (u++F):=(Ct.refl u).app h
theorem Ct.nil (h:Ct s F):s=[]↔F=[]:=by
 constructor
 ·intro e;subst e;by_cases z:4096<F.length
  ·have:=h.2 z;simp at this
  ·exact(h.1 (by omega)).symm
 ·intro e;subst e;exact h.1 (by simp)
theorem Li: ∀(z:List (List UInt8)) (b F:List UInt8),Ct b F→Ct (BN b z) (F++z.flatten)
 |[],b,F,h=>by rw[List.flatten_nil,List.append_nil];exact h
 |x::z,b,F,h=>by
  rw[Pn,List.flatten_cons,←List.append_assoc];refine Li z _ _ ?_;unfold M4;refine⟨fun I=>?_,fun I=>?_⟩
  ·rw[BE]at I;have:=h.1 (by omega);subst this;rw[Ah (by omega),List.take_of_length_le (by omega)]
  ·rw[BE]at I;split
   ·rename_i J;have hF:F.length≤4096:=by
     apply Classical.byContradiction;intro K;have:=h.2 (by omega);omega
    have:=h.1 hF;subst this;rw[BE,List.length_take];omega
   ·rename_i J;omega
theorem IL: ∀(l:List (List UInt8)) (s F:List UInt8) (m:Bool),Ct s F→(m=true↔F≠[])→(∀x∈l,x≠[])→Ct (Ea s l) (F++(BK l m).flatten)∧(B1 l m=true↔F++(BK l m).flatten≠[])
 |[],s,F,m,h,I,_=>by
  unfold Ea BK B1;simp only[List.foldl_nil,List.flatten_nil,List.append_nil,List.isEmpty_nil,Bool.not_true,Bool.or_false];exact⟨h,I⟩
 |x::l,s,F,m,h,I,hx=>by
  have M:=hx x (List.mem_cons_self ..);have N:Ct (D6 (Gp s x)) (F++((if m=true then [[32]]else [])++[x]).flatten):=by
   refine Ct.cut ?_;unfold Gp;by_cases hF:F=[]
   ·subst hF;rw[Ah (h.nil.2 rfl)];have:m=false:=(by cases m with|true=>exact Ai rfl (I.1 rfl)|false=>rfl);subst this;simp only[Bool.false_eq_true,if_false,List.nil_append,List.flatten_cons,List.flatten_nil,List.append_nil];exact .refl x
   ·rw[U (fun e=>hF (h.nil.1 e)),I.2 hF];simp only[if_true,List.flatten_cons,List.flatten_nil,List.append_nil,List.cons_append,List.nil_append];have z:=(h.lit [32]).lit x;rw[List.append_assoc]at z;simpa using z
  have O:(F++((if m=true then [[32]]else [])++[x]).flatten)≠[]:=by
   intro e;have J:=(List.append_eq_nil_iff.1 e).2;rw[List.flatten_append]at J;have K:=(List.append_eq_nil_iff.1 J).2;simp at K;exact M K
  obtain⟨L,z⟩:=IL l _ _ true N ⟨fun _=>O,fun _=>rfl⟩ (fun y hy=>hx y (List.mem_cons_of_mem _ hy));have e:(F++((if m=true then [[32]]else [])++[x]).flatten)++(BK l true).flatten=F++(BK (x::l) m).flatten:=by
   rw[BK];simp[List.append_assoc]
  rw[e]at L z;refine⟨L,?_⟩;have:B1 (x::l) m=B1 l true:=(by unfold B1;simp);rw[this];exact z
theorem Mi: ∀(l:List (List UInt8)) (s F:List UInt8),Ct s F→Ct (Kv s l) (F++(BK l true).flatten)
 |[],s,F,h=>by
  unfold Kv BK;simpa using h
 |x::l,s,F,h=>by
  have:=Mi l (D6 (s++[32]++x)) (F++[32]++x) (((h.lit [32]).lit x).cut);have e:F++[32]++x++(BK l true).flatten=F++(BK (x::l) true).flatten:=by
   rw[BK];simp
  rw[e]at this;exact this
theorem MN (s:List UInt8): ∀(p:List (List UInt8)),GS s p p.length=s++Ck p:=by
 have z: ∀(p:List (List UInt8)) (m:Nat),m≤p.length→GS s p m=s++Ck (p.take m):=by
  intro p m;induction m with
  |zero=>intro _;unfold GS;simp[Ck]
  |succ m ih=>
   intro N;have h:m<p.length:=(by omega);have I:p.getD m []=p[m]:=(by simp[h]);rw[GS,ih (by omega),I,List.take_succ_eq_append_getElem h];have J: ∀(q:List (List UInt8)) (x:List UInt8),Ck (q++[x])=(if q=[]then x else Ck q++[32,124,32]++x):=by
    intro q x;induction q with
    |nil=>rfl
    |cons a q K=>
     cases q with
     |nil=>simp[Ck]
     |cons b q=>
      have L:Ck ((a::b::q)++[x])=a++[32,124,32]++Ck ((b::q)++[x]):=rfl;rw[L,K];simp[Ck]
   rw[J];by_cases M:0<m
   ·rw[Ah M,U (by intro e;have:=congrArg List.length e;rw[List.length_take,List.length_nil]at this;omega)];simp[List.append_assoc]
   ·have:m=0:=(by omega);subst this;rw[U (by omega),List.take_zero,Ah rfl];simp[Ck]
 intro p;have:=z p p.length (BL _);rwa [List.take_length]at this
end
end
section
open Lx
structure LS (n:V):Prop where
 kind:1≤n.kind∧n.kind≤15
 cmd:n.kind=1→(∀s∈n.AY,s≠[])∧(∀s∈n.words,s≠[])∧n.AY.length+n.words.length+n.AK.length≠0
 DB: ∀r∈n.AK,r.op≠[]
 kids:3≤n.kind∧n.kind≤6→n.kids≠[]
theorem WL {n:V} {t:List (List UInt8)} {h amp:List Bool} {z:Bool} (F:n.kind=1):CS n t h amp z=Ea (Ea [] n.AY) n.words:=by
 unfold CS;rw[Ah F]
theorem Xc {l:List V} {rec:Nat→List (List UInt8)} {n:V} (h:n.kind=1):Ao l rec n=BK n.AY false++BK n.words (B1 n.AY false):=by
 unfold Ao;rw[Ah h]
theorem XB {n:V} {t:List (List UInt8)} {z amp:List Bool} {F:Bool} (h:n.kind=2):CS n t z amp F=[33,32]++t.getD 0 []:=by
 unfold CS;rw[U (by rw[h];decide),Ah h]
theorem We {l:List V} {rec:Nat→List (List UInt8)} {n:V} (h:n.kind=2):Ao l rec n=[[33,32]]++Cj rec n 0:=by
 unfold Ao;rw[U (by rw[h];decide),Ah h]
theorem XR {n:V} {t:List (List UInt8)} {z amp:List Bool} {F:Bool} (h:n.kind=7):CS n t z amp F=t.getD 0 []++[32,38]:=by
 unfold CS;rw[U (by rw[h];decide),U (by rw[h];decide),Ah h]
theorem Wm {l:List V} {rec:Nat→List (List UInt8)} {n:V} (h:n.kind=7):Ao l rec n=Cj rec n 0++[[32,38]]:=by
 unfold Ao;rw[U (by rw[h];decide),U (by rw[h];decide),Ah h]
theorem Z1F {P:Prop} (h:P:=by
 rw[U (by rw[h];decide),U (by rw[h];decide),U (by rw[h];decide),Ah h]):P:=h
theorem Wt {n:V} {t:List (List UInt8)} {z amp:List Bool} {F:Bool} (h:n.kind=3):CS n t z amp F=C6 t [32,124,32] t.length:=by
 unfold CS;exact Z1F
theorem WU {l:List V} {rec:Nat→List (List UInt8)} {n:V} (h:n.kind=3):Ao l rec n=C8 rec n [32,124,32] n.kids.length:=by
 unfold Ao;exact Z1F
theorem Z1E {P:Prop} (h:P:=by
 rw[U (by rw[h];decide),U (by rw[h];decide),U (by rw[h];decide),U (by rw[h];decide),Ah h]):P:=h
theorem Wd {n:V} {t:List (List UInt8)} {z amp:List Bool} {F:Bool} (h:n.kind=4):CS n t z amp F=C6 t [32,38,38,32] t.length:=by
 unfold CS;exact Z1E
theorem XH {l:List V} {rec:Nat→List (List UInt8)} {n:V} (h:n.kind=4):Ao l rec n=C8 rec n [32,38,38,32] n.kids.length:=by
 unfold Ao;exact Z1E
theorem Z1C {P:Prop} (h:P:=by
 rw[U (by rw[h];decide),U (by rw[h];decide),U (by rw[h];decide),U (by rw[h];decide),U (by rw[h];decide),Ah h]):P:=h
theorem XE {n:V} {t:List (List UInt8)} {z amp:List Bool} {F:Bool} (h:n.kind=5):CS n t z amp F=C6 t [32,124,124,32] t.length:=by
 unfold CS;exact Z1C
theorem WW {l:List V} {rec:Nat→List (List UInt8)} {n:V} (h:n.kind=5):Ao l rec n=C8 rec n [32,124,124,32] n.kids.length:=by
 unfold Ao;exact Z1C
theorem Z1B {P:Prop} (h:P:=by
 rw[U (by rw[h];decide),U (by rw[h];decide),U (by rw[h];decide),U (by rw[h];decide),U (by rw[h];decide),U (by rw[h];decide),Ah h]):P:=h
theorem WK {n:V} {t:List (List UInt8)} {z amp:List Bool} {F:Bool} (h:n.kind=6):CS n t z amp F=IU t z t.length:=by
 unfold CS;exact Z1B
theorem Wg {l:List V} {rec:Nat→List (List UInt8)} {n:V} (h:n.kind=6):Ao l rec n=Gv l rec n n.kids.length:=by
 unfold Ao;exact Z1B
theorem Z1z {P:Prop} (h:P:=by
 rw[U (by rw[h];decide),U (by rw[h];decide),U (by rw[h];decide),U (by rw[h];decide),U (by rw[h];decide),U (by rw[h];decide),U (by rw[h];decide),Ah h]):P:=h
theorem Ww {n:V} {t:List (List UInt8)} {z amp:List Bool} {F:Bool} (h:n.kind=8):CS n t z amp F=[123,32]++Cq (t.getD 0 []) (amp.getD 0 false)++[125]:=by
 unfold CS;exact Z1z
theorem Wv {l:List V} {rec:Nat→List (List UInt8)} {n:V} (h:n.kind=8):Ao l rec n=[[123,32]]++Bg l rec n 0++[[125]]:=by
 unfold Ao;exact Z1z
theorem Z1y {P:Prop} (h:P:=by
 rw[U (by rw[h];decide),U (by rw[h];decide),U (by rw[h];decide),U (by rw[h];decide),U (by rw[h];decide),U (by rw[h];decide),U (by rw[h];decide),U (by rw[h];decide),Ah h]):P:=h
theorem Wz {n:V} {t:List (List UInt8)} {z amp:List Bool} {F:Bool} (h:n.kind=9):CS n t z amp F=[40,32]++t.getD 0 []++[32,41]:=by
 unfold CS;exact Z1y
theorem Wo {l:List V} {rec:Nat→List (List UInt8)} {n:V} (h:n.kind=9):Ao l rec n=[[40,32]]++Cj rec n 0++[[32,41]]:=by
 unfold Ao;exact Z1y
theorem Z1x {P:Prop} (h:P:=by
 rw[U (by rw[h];decide),U (by rw[h];decide),U (by rw[h];decide),U (by rw[h];decide),U (by rw[h];decide),U (by rw[h];decide),U (by rw[h];decide),U (by rw[h];decide),U (by rw[h];decide),Ah h]):P:=h
theorem O3 {n:V} {t:List (List UInt8)} {F amp:List Bool} {z:Bool} (h:n.kind=10):CS n t F amp z=[105,102,32]++Cq (t.getD 0 []) (amp.getD 0 false)++[116,104,101,110,32]++Cq (t.getD 1 []) (amp.getD 1 false)++(if z=true then [101,108]++t.getD 2 []else if 2<t.length then [101,108,115,101,32]++Cq (t.getD 2 []) (amp.getD 2 false)++[102,105]else [102,105]):=by
 unfold CS;exact Z1x
theorem UR {l:List V} {rec:Nat→List (List UInt8)} {n:V} (h:n.kind=10):Ao l rec n=[[105,102,32]]++Bg l rec n 0++[[116,104,101,110,32]]++Bg l rec n 1++(if Dc l n=true then [[101,108]]++Cj rec n 2 else if 2<n.kids.length then [[101,108,115,101,32]]++Bg l rec n 2++[[102,105]]else [[102,105]]):=by
 unfold Ao;exact Z1x
theorem Ud {n:V} {t:List (List UInt8)} {z amp:List Bool} {F:Bool} (h:n.kind=11):CS n t z amp F=[119,104,105,108,101,32]++Cq (t.getD 0 []) (amp.getD 0 false)++[100,111,32]++Cq (t.getD 1 []) (amp.getD 1 false)++[100,111,110,101]:=by
 unfold CS;rw[U (by rw[h];decide),U (by rw[h];decide),U (by rw[h];decide),U (by rw[h];decide),U (by rw[h];decide),U (by rw[h];decide),U (by rw[h];decide),U (by rw[h];decide),U (by rw[h];decide),U (by rw[h];decide),Ah h]
theorem Uj {l:List V} {rec:Nat→List (List UInt8)} {n:V} (h:n.kind=11):Ao l rec n=[[119,104,105,108,101,32]]++Bg l rec n 0++[[100,111,32]]++Bg l rec n 1++[[100,111,110,101]]:=by
 unfold Ao;rw[U (by rw[h];decide),U (by rw[h];decide),U (by rw[h];decide),U (by rw[h];decide),U (by rw[h];decide),U (by rw[h];decide),U (by rw[h];decide),U (by rw[h];decide),U (by rw[h];decide),U (by rw[h];decide),Ah (.inl h),Ah h]
theorem Z1w {P:Prop} (h:P:=by
 rw[U (by rw[h];decide),U (by rw[h];decide),U (by rw[h];decide),U (by rw[h];decide),U (by rw[h];decide),U (by rw[h];decide),U (by rw[h];decide),U (by rw[h];decide),U (by rw[h];decide),U (by rw[h];decide),U (by rw[h];decide),Ah h]):P:=h
theorem Ui {n:V} {t:List (List UInt8)} {z amp:List Bool} {F:Bool} (h:n.kind=12):CS n t z amp F=[117,110,116,105,108,32]++Cq (t.getD 0 []) (amp.getD 0 false)++[100,111,32]++Cq (t.getD 1 []) (amp.getD 1 false)++[100,111,110,101]:=by
 unfold CS;exact Z1w
theorem Um {l:List V} {rec:Nat→List (List UInt8)} {n:V} (h:n.kind=12):Ao l rec n=[[117,110,116,105,108,32]]++Bg l rec n 0++[[100,111,32]]++Bg l rec n 1++[[100,111,110,101]]:=by
 unfold Ao;rw[U (by rw[h];decide),U (by rw[h];decide),U (by rw[h];decide),U (by rw[h];decide),U (by rw[h];decide),U (by rw[h];decide),U (by rw[h];decide),U (by rw[h];decide),U (by rw[h];decide),U (by rw[h];decide),Ah (.inr h),U (by rw[h];decide)]
theorem Z1v {P:Prop} (h:P:=by
 rw[U (by rw[h];decide),U (by rw[h];decide),U (by rw[h];decide),U (by rw[h];decide),U (by rw[h];decide),U (by rw[h];decide),U (by rw[h];decide),U (by rw[h];decide),U (by rw[h];decide),U (by rw[h];decide),U (by rw[h];decide),U (by rw[h];decide),Ah h]):P:=h
theorem Rg {n:V} {t:List (List UInt8)} {z amp:List Bool} {F:Bool} (h:n.kind=13):CS n t z amp F=(if n.A5=true then Kv ([102,111,114,32]++n.name++[32,105,110]) n.words else [102,111,114,32]++n.name)++[59,32,100,111,32]++Cq (t.getD 0 []) (amp.getD 0 false)++[100,111,110,101]:=by
 unfold CS;exact Z1v
theorem Ue {l:List V} {rec:Nat→List (List UInt8)} {n:V} (h:n.kind=13):Ao l rec n=[[102,111,114,32],n.name]++(if n.A5=true then [[32,105,110]]++BK n.words true else [])++[[59,32,100,111,32]]++Bg l rec n 0++[[100,111,110,101]]:=by
 unfold Ao;exact Z1w
theorem Z1u {P:Prop} (h:P:=by
 rw[U (by rw[h];decide),U (by rw[h];decide),U (by rw[h];decide),U (by rw[h];decide),U (by rw[h];decide),U (by rw[h];decide),U (by rw[h];decide),U (by rw[h];decide),U (by rw[h];decide),U (by rw[h];decide),U (by rw[h];decide),U (by rw[h];decide),U (by rw[h];decide),Ah h]):P:=h
theorem Uc {n:V} {t:List (List UInt8)} {z amp:List Bool} {F:Bool} (h:n.kind=14):CS n t z amp F=casT n t n.AS.length++[32,101,115,97,99]:=by
 unfold CS;exact Z1u
theorem Uk {l:List V} {rec:Nat→List (List UInt8)} {n:V} (h:n.kind=14):Ao l rec n=F9 rec n:=by
 unfold Ao;exact Z1v
theorem UZ {n:V} {t:List (List UInt8)} {z amp:List Bool} {F:Bool} (h:n.kind=15):CS n t z amp F=n.name++[40,41,32]++t.getD 0 []:=by
 unfold CS;rw[U (by rw[h];decide),U (by rw[h];decide),U (by rw[h];decide),U (by rw[h];decide),U (by rw[h];decide),U (by rw[h];decide),U (by rw[h];decide),U (by rw[h];decide),U (by rw[h];decide),U (by rw[h];decide),U (by rw[h];decide),U (by rw[h];decide),U (by rw[h];decide),U (by rw[h];decide),Ah h]
theorem UL {l:List V} {rec:Nat→List (List UInt8)} {n:V} (h:n.kind=15):Ao l rec n=[n.name,[40,41,32]]++Cj rec n 0:=by
 unfold Ao;exact Z1u
section
variable {l:List V} {rec:Nat→List (List UInt8)} {n:V} {all:List (List UInt8)} {ends:List Bool}
structure EX (l:List V) (rec:Nat→List (List UInt8)) (n:V) (all:List (List UInt8)) (ends:List Bool):Prop where
 ok: ∀k∈n.kids,(k= -1∧n.kind=14)∨0≤k
 N9: ∀k∈n.kids,0≤k→Ct (all.getD k.toNat []) (rec k.toNat).flatten∧(rec k.toNat).flatten≠[]
 ends: ∀k∈n.kids,0≤k→ends.getD k.toNat false=Ed l k
theorem NH (i:Nat):(Eg all n).getD i []=match n.kids[i]? with|some k=>if k<0 then []else all.getD k.toNat []|none=>[]:=by
 unfold Eg;rw[List.getD_eq_getElem?_getD,List.getElem?_map];cases n.kids[i]? <;>rfl
theorem Ho:(Eg all n).length=n.kids.length:=by unfold Eg;rw[List.length_map]
theorem Fs {α:Type} {l:List α} {i:Nat} {k:α} (h:l[i]? =some k):k∈l:=List.mem_of_getElem? h
theorem EX.Ny (z:EX l rec n all ends) (i:Nat):Ct ((Eg all n).getD i []) (Cj rec n i).flatten:=by
 rw[NH];unfold Cj;cases hk:n.kids[i]? with
 |none=>exact .refl []
 |some k=>
  simp only[];by_cases h:0≤k
  ·rw[U (by omega),Ah h];exact(z.N9 k (Fs hk) h).1
  ·rw[Ah (by omega),U h];exact .refl []
theorem EX.amp (h:EX l rec n all ends) (i:Nat):LG ((Cz ends n).getD i false)=(Lu l n i).flatten++[32]:=by
 unfold Cz Lu;rw[List.getD_eq_getElem?_getD,List.getElem?_map];cases hk:n.kids[i]? with
 |none=>rfl
 |some k=>
  show LG (if k<0 then false else ends.getD k.toNat false)=(if Ed l k=true then([]:List (List UInt8))else [[59]]).flatten++[32];by_cases z:0≤k
  ·rw[U (by omega),h.ends k (Fs hk) z];cases Ed l k<;>rfl
  ·rw[Ah (by omega)];have:Ed l k=false:=(by unfold Ed;rw[Ah (by omega)]);rw[this];rfl
theorem EX.list (h:EX l rec n all ends) (i:Nat):Ct (Cq ((Eg all n).getD i []) ((Cz ends n).getD i false)) (Bg l rec n i).flatten:=by
 unfold Cq Bg;rw[h.amp i,List.flatten_append,List.flatten_append,List.append_assoc];exact(h.Ny i).app (.refl _)
theorem EX.pos (F:EX l rec n all ends) (i:Nat) (h:i<n.kids.length) (I:n.kind≠14):(Cj rec n i).flatten≠[]:=by
 unfold Cj;rw[List.getElem?_eq_getElem h];simp only[];have G:0≤n.kids[i]:=by
  rcases F.ok _ (List.getElem_mem h)with z|z
  ·exact Ai z.2 I
  ·exact z
 rw[Ah G];exact(F.N9 _ (List.getElem_mem h) G).2
theorem EX.Mx (F:EX l rec n all ends) (h:List UInt8): ∀m,Ct (C6 (Eg all n) h m) (C8 rec n h m).flatten
 |0=> .refl []
 |m+1=>by
  rw[C6,C8,List.flatten_append,List.flatten_append];refine(Ct.app ?_ (F.Ny m)).cut;by_cases z:0<m
  ·rw[Ah z,Ah z];simpa using(F.Mx h m).lit h
  ·rw[U z,U z];simpa using F.Mx h m
theorem EX.Ve (h:EX l rec n all ends) (G:n.kind≠14): ∀m,m≤n.kids.length→Ct (IU (Eg all n) (Dz l n) m) (Gv l rec n m).flatten
 |0,_=> .refl []
 |m+1,L=>by
  rw[IU,Gv,List.flatten_append,List.flatten_append];refine(Ct.app ?_ (h.Ny m)).cut;by_cases z:0<m
  ·rw[Ah z,Ah z];have e:LG ((Dz l n).getD (m-1) false)=(MW l n m).flatten:=by
    have I:m-1<n.kids.length:=(by omega);unfold Dz MW;rw[List.getD_eq_getElem?_getD,List.getElem?_map,List.getElem?_eq_getElem I];have K:n.kids.getD (m-1) 0=n.kids[m-1]:=(by simp[I]);rw[K];show LG (if n.kids[m-1]<0 then false else _)=_;have M:0≤n.kids[m-1]:=by
     rcases h.ok _ (List.getElem_mem I)with J|J
     ·exact Ai J.2 G
     ·exact J
    rw[U (by omega)];by_cases F:(JO l n.kids[m-1]).kind=7
    ·rw[Ah F,F];rfl
    ·rw[U F,show((JO l n.kids[m-1]).kind==7)=false from Ba F];rfl
   rw[e];exact(h.Ve G m (by omega)).app (.refl _)
  ·rw[U z,U z];simpa using h.Ve G m (by omega)
theorem EX.AS (F:EX l rec n all ends): ∀m,m≤n.AS.length→Ct (casT n (Eg all n) m) ([[99,97,115,101,32],n.words.headD [],[32,105,110]]++FM rec n m).flatten
 |0,_=>by
  rw[casT,FM];simp only[List.append_nil,List.flatten_cons,List.flatten_nil];rw[List.append_assoc];exact .refl _
 |m+1,L=>by
  rw[casT,FM,MN];have ih:=F.AS m (by omega);have e: ∀G:List (List UInt8),([[99,97,115,101,32],n.words.headD [],[32,105,110]]++(FM rec n m++[[32,40],Ck (n.AS.getD m []),[41]]++G++[[59,59]])).flatten=([[99,97,115,101,32],n.words.headD [],[32,105,110]]++FM rec n m).flatten++[32,40]++Ck (n.AS.getD m [])++[41]++G.flatten++[59,59]:=by
   intro G;simp[List.append_assoc]
  rw[e];refine(Ct.app ?_ (.refl [59,59])).cut;have I:=((ih.lit [32,40]).lit (Ck (n.AS.getD m []))).lit [41];have h:=F.Ny m;rw[NH]at h⊢;unfold Cj at h;cases hk:n.kids[m]? with
  |none=>
   simp only[ne_eq,not_true_eq_false,if_false,List.flatten_nil,List.append_nil];exact I
  |some k=>
   simp only[hk]at h;simp only[];by_cases z:0≤k
   ·rw[U (by omega),Ah z]at h;have J:all.getD k.toNat []≠[]:=fun x=>(F.N9 k (Fs hk) z).2 (h.nil.1 x)
    rw[U (show¬k<0 by omega),Ah J,Ah z];have K:=(I.lit [32]).app h;rw[show(([[32]]:List (List UInt8))++rec k.toNat).flatten=[32]++(rec k.toNat).flatten from rfl,←List.append_assoc];exact K
   ·rw[Ah (show k<0 by omega),U (by simp),U z,List.flatten_nil,List.append_nil];exact I
theorem Z1A {P:Prop} (h:P:=by
 simp only[List.flatten_append,List.flatten_cons,List.flatten_nil,List.append_nil];exact((((h.list 0).pre _).lit _).app (h.list 1)).lit _):P:=h
theorem Z1D {P:Prop} (h:P:=by
 simp only[List.flatten_append,List.flatten_cons,List.flatten_nil,List.append_nil];exact(h.Ny 0).pre _):P:=h
theorem EX.body (h:EX l rec n all ends) (M:LS n):Ct (CS n (Eg all n) (Dz l n) (Cz ends n) (Dc l n)) (Ao l rec n).flatten∧(Bd n=true↔(Ao l rec n).flatten≠[]):=by
 have hk:n.kind=1∨n.kind=2∨n.kind=3∨n.kind=4∨n.kind=5∨n.kind=6∨n.kind=7∨n.kind=8∨n.kind=9∨n.kind=10∨n.kind=11∨n.kind=12∨n.kind=13∨n.kind=14∨n.kind=15:=(by have:=M.kind;omega);have F:n.kind≠1→(Ao l rec n).flatten≠[]→(Bd n=true↔(Ao l rec n).flatten≠[]):=fun W I=>by
  unfold Bd;rw[U W];exact⟨fun _=>I,fun _=>rfl⟩
 have last: ∀(m:Nat) (u:List UInt8),m+1=n.kids.length→n.kind≠14→(C8 rec n u (m+1)).flatten≠[]:=fun m u J z e=>by
  rw[C8,List.flatten_append]at e;exact h.pos m (by omega) z (List.append_eq_nil_iff.1 e).2
 have K:3≤n.kind∧n.kind≤6→ ∃m,m+1=n.kids.length:=fun X=>⟨n.kids.length-1,by have:=List.length_pos_iff.2 (M.kids X);omega⟩
 rcases hk with hk|hk|hk|hk|hk|hk|hk|hk|hk|hk|hk|hk|hk|hk|hk
 ·obtain⟨aa,ab,_⟩:=M.cmd hk;rw[WL hk,Xc hk,List.flatten_append];obtain⟨N,O⟩:=IL n.AY [] [] false (.refl []) ⟨fun h=>(by cases h),fun h=>Ai rfl h⟩ aa;rw[List.nil_append]at N O;obtain⟨ac,ad⟩:=IL n.words _ _ (B1 n.AY false) N O ab;refine⟨ac,?_⟩;unfold Bd;rw[Ah hk];exact ad
 ·have z:n.kind≠14:=(by omega);refine⟨?_,F (by omega) (by rw[We hk];simp)⟩;rw[XB hk,We hk];exact Z1D
 ·have z:n.kind≠14:=(by omega);obtain⟨m,G⟩:=K (by omega);refine⟨?_,F (by omega) (by rw[WU hk,←G];exact last m _ G z)⟩;rw[Wt hk,WU hk];rw[Ho];exact h.Mx [32,124,32] _
 ·have z:n.kind≠14:=(by omega);obtain⟨m,G⟩:=K (by omega);refine⟨?_,F (by omega) (by rw[XH hk,←G];exact last m _ G z)⟩;rw[Wd hk,XH hk];rw[Ho];exact h.Mx [32,38,38,32] _
 ·have z:n.kind≠14:=(by omega);obtain⟨m,G⟩:=K (by omega);refine⟨?_,F (by omega) (by rw[WW hk,←G];exact last m _ G z)⟩;rw[XE hk,WW hk];rw[Ho];exact h.Mx [32,124,124,32] _
 ·have z:n.kind≠14:=(by omega);obtain⟨m,G⟩:=K (by omega);refine⟨?_,F (by omega) (by
   rw[Wg hk,←G,Gv,List.flatten_append];intro e;exact h.pos m (by omega) z (List.append_eq_nil_iff.1 e).2)⟩
  rw[WK hk,Wg hk,Ho];exact h.Ve z _ (BL _)
 ·have z:n.kind≠14:=(by omega);refine⟨?_,F (by omega) (by rw[Wm hk];simp)⟩;rw[XR hk,Wm hk];simp only[List.flatten_append,List.flatten_cons,List.flatten_nil,List.append_nil];exact(h.Ny 0).lit _
 ·have z:n.kind≠14:=(by omega);refine⟨?_,F (by omega) (by rw[Wv hk];simp)⟩;rw[Ww hk,Wv hk];simp only[List.flatten_append,List.flatten_cons,List.flatten_nil,List.append_nil];exact((h.list 0).pre _).lit _
 ·have z:n.kind≠14:=(by omega);refine⟨?_,F (by omega) (by rw[Wo hk];simp)⟩;rw[Wz hk,Wo hk];simp only[List.flatten_append,List.flatten_cons,List.flatten_nil,List.append_nil];exact((h.Ny 0).pre _).lit _
 ·have z:n.kind≠14:=(by omega);refine⟨?_,F (by omega) (by rw[UR hk];simp)⟩;rw[O3 hk,UR hk];rw[Ho];simp only[List.flatten_append,List.flatten_cons,List.flatten_nil,List.append_nil];refine Ct.app ((((h.list 0).pre _).lit _).app (h.list 1)) ?_;by_cases J:Dc l n=true
  ·rw[Ah J,Ah J];simp only[List.flatten_append,List.flatten_cons,List.flatten_nil,List.append_nil];exact(h.Ny 2).pre _
  ·rw[U J,U J];by_cases I:2<n.kids.length
   ·rw[Ah I,Ah I];simp only[List.flatten_append,List.flatten_cons,List.flatten_nil,List.append_nil];exact((h.list 2).pre _).lit _
   ·rw[U I,U I];exact .refl _
 ·have z:n.kind≠14:=(by omega);refine⟨?_,F (by omega) (by rw[Uj hk];simp)⟩;rw[Ud hk,Uj hk];exact Z1A
 ·have z:n.kind≠14:=(by omega);refine⟨?_,F (by omega) (by rw[Um hk];simp)⟩;rw[Ui hk,Um hk];exact Z1A
 ·have z:n.kind≠14:=(by omega);refine⟨?_,F (by omega) (by rw[Ue hk];simp)⟩;rw[Rg hk,Ue hk];simp only[List.flatten_append,List.flatten_cons,List.flatten_nil,List.append_nil];refine(((Ct.app ?_ (.refl _)).app (h.list 0)).lit _);by_cases L:n.A5=true
  ·rw[Ah L,Ah L];have:=Mi n.words _ _ (Ct.refl ([102,111,114,32]++n.name++[32,105,110]));simpa [List.append_assoc]using this
  ·rw[U L,U L];simp only[List.flatten_nil,List.append_nil];exact .refl _
 ·skip
  refine⟨?_,F (by omega) (by rw[Uk hk];unfold F9;simp)⟩;rw[Uc hk,Uk hk];unfold F9;rw[List.flatten_append];simpa using(h.AS n.AS.length (BL _)).lit [32,101,115,97,99]
 ·have z:n.kind≠14:=(by omega);refine⟨?_,F (by omega) (by rw[UL hk];simp)⟩;rw[UZ hk,UL hk];exact Z1D
theorem EX.text (I:EX l rec n all ends) (h:LS n):Ct (IC n (Eg all n) (Dz l n) (Cz ends n) (Dc l n)) (Ao l rec n++BK (n.AK.map Dh) (Bd n)).flatten∧(Ao l rec n++BK (n.AK.map Dh) (Bd n)).flatten≠[]:=by
 obtain⟨J,K⟩:=I.body h;have z: ∀x∈n.AK.map Dh,x≠[]:=fun x hx=>by
  obtain⟨r,z,rfl⟩:=List.mem_map.1 hx;unfold Dh;intro e;have F:=(List.append_eq_nil_iff.1 e).2;exact h.DB r z (List.append_eq_nil_iff.1 F).1
 obtain⟨F,L⟩:=IL _ _ _ (Bd n) J K z;rw[List.flatten_append];refine⟨F.cut,L.1 ?_⟩;unfold B1;by_cases hk:n.kind=1
 ·have G:=(h.cmd hk).2.2;unfold Bd;rw[Ah hk];unfold B1;cases hs:n.AY with
  |cons a s=>simp
  |nil=>
   cases M:n.words with
   |cons a s=>simp
   |nil=>
    cases N:n.AK with
    |cons a s=>simp
    |nil=>rw[hs,M,N]at G;simp at G
 ·unfold Bd;rw[U hk];rfl
end
end
section
open Lx
section
variable {l:List V} {rec rec':Nat→List (List UInt8)} {n:V}
def Alike (n:V) (rec rec':Nat→List (List UInt8)):Prop:= ∀k∈n.kids,0≤k→rec k.toNat=rec' k.toNat
theorem Om (z:Alike n rec rec') (i:Nat):Cj rec n i=Cj rec' n i:=by
 unfold Cj;cases hk:n.kids[i]? with
 |none=>rfl
 |some k=>
  simp only[];by_cases h:0≤k
  ·rw[Ah h,Ah h,z k (Fs hk) h]
  ·rw[U h,U h]
theorem Vt (h:Alike n rec rec') (i:Nat):Bg l rec n i=Bg l rec' n i:=by unfold Bg;rw[Om h]
theorem Se (h:Alike n rec rec') (u:List UInt8): ∀m,C8 rec n u m=C8 rec' n u m
 |0=>rfl
 |m+1=>by rw[C8,C8,Se h u m,Om h]
theorem Ul (h:Alike n rec rec'): ∀m,Gv l rec n m=Gv l rec' n m
 |0=>rfl
 |m+1=>by rw[Gv,Gv,Ul h m,Om h]
theorem Sa (z:Alike n rec rec'): ∀m,FM rec n m=FM rec' n m
 |0=>rfl
 |m+1=>by
  rw[FM,FM,Sa z m];cases hk:n.kids[m]? with
  |none=>rfl
  |some k=>
   simp only[];by_cases h:0≤k
   ·rw[Ah h,Ah h,z k (Fs hk) h]
   ·rw[U h,U h]
theorem Uv (h:Alike n rec rec'):Ao l rec n=Ao l rec' n:=by
 unfold Ao F9;simp only[Om h,Vt h,Se h,Ul h,Sa h]
end
theorem Iv (l:List V) (i:Nat):JO l (i:Int)=l.getD i PV:=by unfold JO;rw[Int.toNat_natCast]
theorem LQ {l:List V} (z:Hg l): ∀(i f g:Nat),i<f→i<g→i<l.length→Ax l f i=Ax l g i:=by
 intro i;induction i using Nat.strongRecOn with
 |_ i ih=>
  intro f g J K h;obtain⟨f,rfl⟩: ∃F,f=F+1:=⟨f-1,by omega⟩;obtain⟨g,rfl⟩: ∃G,g=G+1:=⟨g-1,by omega⟩;rw[Ax,Ax];have I:JO l i=l[i]:=(by rw[Iv];simp[h]);rw[Uv (rec':=Ax l g)];intro k hk L;rw[I]at hk;rcases z i h k hk with⟨M,_⟩|⟨_,N⟩
  ·omega
  ·exact ih k.toNat (by omega) f g (by omega) (by omega) (by omega)
structure WQ (l:List V) (m:Nat):Prop where
 l1:(Ca l m).1.length=m
 l2:(Ca l m).2.length=m
 N9: ∀i,i<m→Ct ((Ca l m).1.getD i []) (Ax l (i+1) i).flatten∧(Ax l (i+1) i).flatten≠[]
 ends: ∀i,i<m→(Ca l m).2.getD i false=Ed l (i:Int)
theorem RK {l:List V} (G:Hg l) (i:Nat) (F:i<l.length):LA l l[i]=Ed l (i:Int):=by
 unfold LA Ed Dz;rw[U (by omega),Iv];have I:l.getD i PV=l[i]:=(by simp[F]);rw[I];simp only[];cases hk:l[i].kids.getLast? with
 |none=>
  have h:l[i].kids=[]:=(by simpa using hk);rw[h];simp
 |some k=>
  have J:k∈l[i].kids:=List.mem_of_getLast? hk;have K:(l[i].kids.map fun k=>if k<0 then false else(JO l k).kind==7).getLastD false=(if k<0 then false else(JO l k).kind==7):=by
   rw[List.getLastD_eq_getLast?,List.getLast?_map,hk];rfl
  rw[K];show _=(if l[i].kind=6 then(JO l k).kind==7 else l[i].kind==7);by_cases z:l[i].kind=6
  ·have h: ¬k<0:=by
    rcases G i F k J with⟨_,L⟩|⟨L,_⟩
    ·omega
    ·omega
   rw[U h,z];simp
  ·rw[U z,show(l[i].kind==6)=false from Ba z];simp
theorem Uo {l:List V} (h:Hg l) (K: ∀n∈l,LS n): ∀m,m≤l.length→WQ l m
 |0,_=>⟨rfl,rfl,fun i F=>Ai F (Nat.not_lt_zero _),fun i F=>Ai F (Nat.not_lt_zero _)⟩
 |m+1,ab=>by
  have ih:=Uo h K m (by omega);have z:m<l.length:=(by omega);have I:l.getD m PV=l[m]:=(by simp[z]);have L:EX l (Ax l m) l[m] (Ca l m).1 (Ca l m).2:=by
   refine⟨fun k hk=>?_,fun k hk M=>?_,fun k hk M=>?_⟩
   ·rcases h m z k hk with J|J
    ·exact .inl J
    ·exact .inr J.1
   ·rcases h m z k hk with⟨N,_⟩|⟨_,O⟩
    ·omega
    ·have W:=ih.N9 k.toNat (by omega);rw[LQ h k.toNat m (k.toNat+1) (by omega) (by omega) (by omega)];exact W
   ·rcases h m z k hk with⟨N,_⟩|⟨_,O⟩
    ·omega
    ·rw[ih.ends k.toNat (by omega)];congr 1
     omega
  have X:=L.text (K _ (List.getElem_mem z));have aa:Ax l (m+1) m=Ao l (Ax l m) l[m]++BK (l[m].AK.map Dh) (Bd l[m]):=by
   rw[Ax,Iv,I]
  refine⟨by rw[Ca];simp[ih.l1],by rw[Ca];simp[ih.l2],fun i F=>?_,fun i F=>?_⟩
  ·rw[Ca,I];by_cases G:i<m
   ·have e:((Ca l m).1++[IC l[m] (Eg (Ca l m).1 l[m]) (Dz l l[m]) (Cz (Ca l m).2 l[m]) (Dc l l[m])]).getD i []=(Ca l m).1.getD i []:=by
     rw[List.getD_eq_getElem?_getD,List.getElem?_append_left (by rw[ih.l1];exact G),←List.getD_eq_getElem?_getD]
    rw[e];exact ih.N9 i G
   ·obtain rfl:i=m:=by omega
    have e:((Ca l i).1++[IC l[i] (Eg (Ca l i).1 l[i]) (Dz l l[i]) (Cz (Ca l i).2 l[i]) (Dc l l[i])]).getD i []=IC l[i] (Eg (Ca l i).1 l[i]) (Dz l l[i]) (Cz (Ca l i).2 l[i]) (Dc l l[i]):=by
     rw[List.getD_eq_getElem?_getD,List.getElem?_append_right (by rw[ih.l1];omega),ih.l1,Nat.sub_self];rfl
    rw[e,aa];exact X
  ·rw[Ca,I];by_cases G:i<m
   ·rw[List.getD_eq_getElem?_getD,List.getElem?_append_left (by rw[ih.l2];exact G),←List.getD_eq_getElem?_getD];exact ih.ends i G
   ·obtain rfl:i=m:=by omega
    rw[List.getD_eq_getElem?_getD,List.getElem?_append_right (by rw[ih.l2];omega),ih.l2,Nat.sub_self];exact RK h i z
theorem V7 {l:List V} (L:D7 l=true→Hg l∧1≤l.length) (M: ∀s:List UInt8,(B9 s).e=0→ ∀n∈(B9 s).ns,LS n):OZ l=Eu l:=by
 unfold OZ Eu;by_cases h:D7 l=true
 ·rw[Ah h,Ah h];obtain⟨G,W⟩:=L h;simp only[];by_cases I: ∀n∈l,LS n
  ·have J:=Uo G I l.length (BL _);have z:=(J.N9 (l.length-1) (by omega)).1;rw[LQ G (l.length-1) (l.length-1+1) l.length (by omega) (by omega) (by omega)]at z;have F:=Li (Ax l l.length (l.length-1)) [] [] (.refl []);rw[List.nil_append]at F;have e:(Ca l l.length).1.getLastD []=(Ca l l.length).1.getD (l.length-1) []:=by
    rw[List.getLastD_eq_getLast?,List.getLast?_eq_getElem?,J.l1,List.getD_eq_getElem?_getD]
   rw[e];by_cases hF:(Ax l l.length (l.length-1)).flatten.length≤4096
   ·rw[z.1 hF,F.1 hF]
   ·rw[Ah (z.2 (by omega)),Ah (F.2 (by omega))]
  ·have K: ∀s:List UInt8,(if 4096<s.length then []else if(B9 s).e=0∧(B9 s).ns=l then s else [])=[]:=fun s=>by
    split
    ·rfl
    ·rw[U];rintro⟨N,O⟩;exact I (O▸M s N)
   rw[K,K]
 ·rw[U h,U h]
end
section
open Lx
theorem Vo: ∀s∈Fv,s≠[]:=by decide
theorem OB (s:List UInt8): ∀n∈(B9 s).ns,LS n:=by
 intro n F;have h:=Mc (Q:=fun _=>True) (P:=fun x=>x≠[]) (fun _ _=>trivial) trivial (s:=s) (fun ts G t I hk=>by
  have J:=(Gs G).2.w t I;rcases J with⟨z,_,_⟩|z
  ·omega
  ·rcases hk with hk|hk
   ·obtain⟨c,r,e,_⟩:=z.wd hk;rw[e];simp
   ·obtain⟨c,e,_⟩:=z.io hk;rw[e];simp) n F
 exact⟨h.kd.1,fun hk=>⟨h.AY,h.words,h.kd.2.1 hk⟩,fun r K=>Vo _ (h.AK r K).1,h.kd.2.2⟩
theorem Q9 {l:List V} (h:D7 l=true→Hg l∧1≤l.length):OZ l=Eu l:=V7 h fun s _=>OB s
end
end Go.Proofs.YtdhfhphbkfgamaaGreat
