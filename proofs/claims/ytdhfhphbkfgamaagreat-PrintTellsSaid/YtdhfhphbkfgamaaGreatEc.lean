/- A part. -/
import Derived.Test.YtdhfhphbkfgamaaGreatEa
import Derived.Test.YtdhfhphbkfgamaaGreatPj
set_option maxRecDepth 100000
set_option linter.all false
set_option maxHeartbeats 0
namespace Go.Proofs.YtdhfhphbkfgamaaGreat
section
open Go.RowKit Lx Proofs.Tryz
theorem Bv{a b:Bool}(h:a=b):Ending.returned (.bool a)=.returned (.bool b):=by rw[h]
theorem N7{a b:Int}(h:a=b):Ending.returned (.int .i64 a)=.returned (.int .i64 b):=by rw[h]
structure Tg(T:List AY):Prop where
 Ak:Good T
 wl:Wl T
 Lc:∀t∈T,NN t
 len:T.length<=500
structure IA(w:World)(rb:Nat)(T:List AY)(vt:Value)(a:Nat)(d e f:Int):Prop where
 BF:Y w rb 86 #[vt,.int .i64 a,.int .i64 d,.int .i64 e,.int .i64 f]
 tok:Own w 69 3 vt T.length (Jo T) 0
 lt:a<T.length
 tg:Tg T
 old:∀g,vt.ownBlock=some g->g<rb
inductive DS
 |ok (ts:List AY) (d:Nat)
 |er (a e:Int)
def BU(w:World)(rb:Nat)(T:List AY):DS->Prop
 | .ok ts d=> ∃vt a f,IA w rb T vt a d 0 f/\T.drop a=ts/\d<=26
 | .er a e=> ∃vt i d,IA w rb T vt i d e a/\e≠0
section
variable {w w':World}{rb a:Nat}{T:List AY}{vt:Value}{d e f:Int}{s:DS}
theorem IA.grown(h:IA w rb T vt a d e f)(z:w.grownBy w' none):IA w' rb T vt a d e f:=⟨Y.grown h.BF z (by simp),Bl z h.tok,h.lt,h.tg,h.old⟩
theorem BU.grown(h:BU w rb T s)(F:w.grownBy w' none):BU w' rb T s:=by
 cases s with
 |ok ts d=>
  obtain⟨vt,a,f,h,z⟩:=h;exact⟨vt,a,f,h.grown F,z⟩
 |er x k=>
  obtain⟨vt,i,d,h,z⟩:=h;exact⟨vt,i,d,h.grown F,z⟩
theorem IA.cells(h:IA w rb T vt a d e f):w.cell? ⟨rb,0,none⟩=some vt/\w.cell? ⟨rb,1,none⟩=some (.int .i64 a)/\w.cell? ⟨rb,2,none⟩=some (.int .i64 d)/\w.cell? ⟨rb,3,none⟩=some (.int .i64 e)/\w.cell? ⟨rb,4,none⟩=some (.int .i64 f):=⟨Y.cell h.BF 0,Y.cell h.BF 1,Y.cell h.BF 2,Y.cell h.BF 3,Y.cell h.BF 4⟩
theorem N2{w:World}{v:Value}{T:List AY}(I:Own w 69 3 v T.length (Jo T) 0)(J:0<T.length):∃g h z,v=.slice (some ⟨g,h,none⟩) T.length z/\T.length<=z/\g<w.heap.size/\ ∀i (F:i<T.length),w.cell? ⟨g,h+i*3,none⟩=some (.int .i64 (T[i]).k)/\w.cell? ⟨g,h+i*3+1,none⟩=some (.string ⟨(T[i]).t.toArray⟩)/\w.cell? ⟨g,h+i*3+2,none⟩=some (.int .i64 (T[i]).a):=by
 obtain⟨g,h,z,rfl,K,_,L,G⟩:=I.some_ J;refine⟨g,h,z,rfl,K,L,fun i F=>⟨?_,?_,?_⟩⟩
 ·have:=G (i*3) (by omega);rw[this,show i*3=i*3+0 from rfl,Ik T i 0 F (by omega)];rfl
 ·have:=G (i*3+1) (by omega);rw[Nat.add_assoc,this,Ik T i 1 F (by omega)];rfl
 ·have:=G (i*3+2) (by omega);rw[Nat.add_assoc,this,Ik T i 2 F (by omega)];rfl
theorem IA.Dh(z:IA w rb T vt a d e f):∃g h F t r,vt=.slice (some ⟨g,h,none⟩) T.length F/\T.length<=F/\g<w.heap.size/\T.drop a=t::r/\w.cell? ⟨g,h+a*3,none⟩=some (.int .i64 t.k)/\w.cell? ⟨g,h+a*3+1,none⟩=some (.string ⟨t.t.toArray⟩)/\w.cell? ⟨g,h+a*3+2,none⟩=some (.int .i64 t.a):=by
 obtain⟨g,h,F,e,G,I,J⟩:=N2 z.tok (Nat.lt_of_le_of_lt (DD _) z.lt);exact⟨g,h,F,_,_,e,G,I,List.drop_eq_getElem_cons z.lt,J a z.lt⟩
theorem IA.lb(h:IA w rb T vt a d e f):rb<w.heap.size:=Y.lt h.BF
theorem IA.fresh{B:Nat}(h:IA w rb T vt a d e f)(z:rb<B)(j:Nat)(u:Value):IA (w.setCell ⟨B,j,none⟩ u) rb T vt a d e f:=by
 refine⟨Y.Bi h.BF (p:=⟨B,j,none⟩) (show rb≠B by omega) _,h.tok.Bi (p:=⟨B,j,none⟩) (fun e=>?_) _,h.lt,h.tg,h.old⟩;have:=h.old _ e;simp only[]at this;omega
theorem BU.fresh{B:Nat}(h:BU w rb T s)(F:rb<B)(j:Nat)(u:Value):BU (w.setCell ⟨B,j,none⟩ u) rb T s:=by
 cases s with
 |ok ts d=>
  obtain⟨vt,a,f,h,z⟩:=h;exact⟨vt,a,f,h.fresh F j u,z⟩
 |er x k=>
  obtain⟨vt,i,d,h,z⟩:=h;exact⟨vt,i,d,h.fresh F j u,z⟩
theorem BU.lb(h:BU w rb T s):rb<w.heap.size:=by
 cases s with
 |ok ts d=>obtain⟨vt,a,f,h,_⟩:=h;exact h.lb
 |er x k=>obtain⟨vt,i,d,h,_⟩:=h;exact h.lb
theorem L8{T:List AY}(z:Good T):∀a,a<T.length->Good (T.drop a)/\ ∀i (F:i<T.length),i<a->T[i].k≠4:=by
 intro a G;obtain⟨p,e,rfl,I,h⟩:=z;rw[BG,Cj]at G;refine⟨⟨p.drop a,e,by rw[List.drop_append_of_le_length (by omega)],I,fun t J=>h t (List.mem_of_mem_drop J)⟩,fun i F K=>?_⟩;rw[List.getElem_append_left (by omega)];exact h _ (Cp _)
theorem BU.Ak{ts:List AY}{d:Nat}(h:BU w rb T (.ok ts d)):Good ts/\Wl ts/\(∀t∈ts,NN t)/\ts.length<=500/\d<=26:=by
 obtain⟨vt,a,f,h,rfl,z⟩:=h;exact⟨(L8 h.tg.Ak a h.lt).1,h.tg.wl.drop a,fun t F=>h.tg.Lc t (List.mem_of_mem_drop F),by rw[D8];have:=h.tg.len;omega,z⟩
theorem IA.step{t:AY}{r:List AY}(h:IA w rb T vt a d e f)(z:T.drop a=t::r)(hk:t.k≠4):IA (w.setCell ⟨rb,1,none⟩ (.int .i64 ((a+1:Nat):Int))) rb T vt (a+1) d e f/\T.drop (a+1)=r:=by
 have F:T.drop (a+1)=r:=(by rw[<-List.drop_drop,z];rfl);refine⟨⟨Y.AW h.BF 1 _,h.tok.Bi (p:=⟨rb,1,none⟩) (fun e=>?_) _,?_,h.tg,h.old⟩,F⟩
 ·have:=(h.tok.AO e).uniq h.BF.AO;exact Aj this (by decide)
 ·have G:=(L8 h.tg.Ak a h.lt).1;rw[z]at G;have:=(G.tail hk).pos;rw[<-F,D8]at this;omega
theorem IA.set(h:IA w rb T vt a d e f)(j:Nat)(z:j=2\/j=3\/j=4)(x:Int):IA (w.setCell ⟨rb,j,none⟩ (.int .i64 x)) rb T vt a (if j=2 then x else d) (if j=3 then x else e) (if j=4 then x else f):=by
 refine⟨?_,h.tok.Bi (p:=⟨rb,j,none⟩) (fun e=>?_) _,h.lt,h.tg,h.old⟩
 ·have:=Y.AW h.BF j (.int .i64 x);rcases z with rfl|rfl|rfl<;>exact this
 ·have:=(h.tok.AO e).uniq h.BF.AO;exact Aj this (by decide)
end
def Je:DS->List UInt8->Bool
 | .ok ts _,s=>Dx ts s
 | .er _ _,_=>false
def Lj:DS->List UInt8->Bool
 | .ok ts _,s=>GD ts s
 | .er _ _,_=>false
def Qb(b:Bool)(w:World)(e:Ending)(w':World):Prop:=e=.returned (.bool b)/\w.grownBy w' none
theorem FE(rb:Nat)(T:List AY)(z:DS)(s:List UInt8)(w:World)(h:BU w rb T z):Calls prog 69 #[.pointer (some ⟨rb,0,none⟩),sv s] w (Qb (Je z s) w):=by
 cases z with
 |er x k=>
  obtain⟨vt,i,d,h,hk⟩:=h;obtain⟨G,M,N,c3,c4⟩:=h.cells;have lb:=h.lb;have q:(k==0)=false:=Bd hk;unfold sv Qb Je;clear h;go_enter func69,ntmps69;go_wp2_with fail;go_quiet (fail);go_wp2_with fail;go_ret;exact⟨rfl,At (AB w none) nq⟩
 |ok ts d=>
  obtain⟨vt,a,f,h,I,_⟩:=h;obtain⟨G,M,N,c3,c4⟩:=h.cells;obtain⟨g,ac,ad,t,r,rfl,O,ae,J,t0,t1,t2⟩:=h.Dh;have lb:=h.lb;have W:=h.lt;have X:(0:Int)<=(a:Int)/\(a:Int)<((T.length:Nat):Int):=(by omega);have hs:Je (.ok ts d) s=(t.k==2&&t.t==s):=(by rw[<-I,J];rfl);have K:=Z hs;obtain⟨af,L⟩:=U T.length;rw[L]at G X O;clear h W I J hs L;obtain⟨F,aa,ag⟩:=t;simp only[]at t0 t1 t2;unfold sv Qb;by_cases hk:F=2
  ·subst hk;go_enter func69,ntmps69;go_wp2_with fail;go_quiet (fail);go_wp2_with fail;go_ret;exact⟨Bv (a:=aa==s) (by rw[K.out];simp),At (AB w none) nq⟩
  ·have q:((F:Int)==2)=false:=(by rw[A4];omega);have ab:=Z (show(F==2)=false by rw[A4];exact hk);go_enter func69,ntmps69;go_wp2_with fail;go_quiet (fail);go_wp2_with fail;go_ret;exact⟨Bv (a:=false) (by rw[K.out];simp only[ab.out,Bool.false_and]),At (AB w none) nq⟩
theorem Gg(rb:Nat)(T:List AY)(z:DS)(s:List UInt8)(w:World)(h:BU w rb T z):Calls prog 100 #[.pointer (some ⟨rb,0,none⟩),sv s] w (Qb (Lj z s) w):=by
 cases z with
 |er x k=>
  obtain⟨vt,i,d,h,hk⟩:=h;obtain⟨G,M,N,c3,c4⟩:=h.cells;have lb:=h.lb;have q:(k==0)=false:=Bd hk;unfold sv Qb Lj;clear h;go_enter func100,ntmps100;go_wp2_with fail;go_quiet (fail);go_wp2_with fail;go_ret;exact⟨rfl,At (AB w none) nq⟩
 |ok ts d=>
  obtain⟨vt,a,f,h,I,_⟩:=h;obtain⟨G,M,N,c3,c4⟩:=h.cells;obtain⟨g,ac,ad,t,r,rfl,O,ae,J,t0,t1,t2⟩:=h.Dh;have lb:=h.lb;have W:=h.lt;have X:(0:Int)<=(a:Int)/\(a:Int)<((T.length:Nat):Int):=(by omega);have hs:Lj (.ok ts d) s=(t.k==1&&t.t==s):=(by rw[<-I,J];rfl);have K:=Z hs;obtain⟨af,L⟩:=U T.length;rw[L]at G X O;clear h W I J hs L;obtain⟨F,aa,ag⟩:=t;simp only[]at t0 t1 t2;unfold sv Qb;by_cases hk:F=1
  ·subst hk;go_enter func100,ntmps100;go_wp2_with fail;go_quiet (fail);go_wp2_with fail;go_ret;exact⟨Bv (a:=aa==s) (by rw[K.out];simp),At (AB w none) nq⟩
  ·have q:((F:Int)==1)=false:=(by rw[A4];omega);have ab:=Z (show(F==1)=false by rw[A4];exact hk);go_enter func100,ntmps100;go_wp2_with fail;go_quiet (fail);go_wp2_with fail;go_ret;exact⟨Bv (a:=false) (by rw[K.out];simp only[ab.out,Bool.false_and]),At (AB w none) nq⟩
def X8:Ending:=.returned (.tuple #[])
def N8(x k:Int):DS->DS
 | .ok _ _=> .er x k
 | .er a e=> .er a e
def Qu(rb:Nat)(T:List AY)(h:DS)(w:World)(e:Ending)(w':World):Prop:=e=.returned (.tuple #[])/\BU w' rb T h/\w.grownBy w' (some rb)
theorem Lv(rb:Nat)(T:List AY)(z:DS)(x k:Int)(F:k≠0)(w:World)(h:BU w rb T z):Calls prog 73 #[.pointer (some ⟨rb,0,none⟩),.int .i64 x,.int .i64 k] w (Qu rb T (N8 x k z) w):=by
 cases z with
 |er a e=>
  have G:=Z h;obtain⟨vt,i,d,h,hk⟩:=h;obtain⟨I,J,K,c3,c4⟩:=h.cells;have lb:=h.lb;have q:(e==0)=false:=Bd hk;unfold Qu N8;clear h;go_enter func73,ntmps73;go_wp2_with fail;refine bodyPost_end (results_none rfl _ _ _) rfl ⟨rfl,G.out,AB w _⟩
 |ok ts d=>
  obtain⟨vt,a,f,h,L,_⟩:=h;obtain⟨I,J,K,c3,c4⟩:=h.cells;have lb:=h.lb;have z3:=Y.frozen h.BF 3;have O:=Y.frozen h.BF 4;have M:=Z ((h.set 3 (.inr (.inl rfl)) k).set 4 (.inr (.inr rfl)) x);have N:=Z F;unfold Qu N8;clear h L F;go_enter func73,ntmps73;go_wp2_with fail;refine bodyPost_end (results_none rfl _ _ _) rfl ⟨rfl,⟨vt,a,_,M.out,N.out⟩,?_⟩;exact AN (AN (AB w (some rb)) (p:=⟨rb,3,none⟩) (.inl rfl) _) (p:=⟨rb,4,none⟩) (.inl rfl) _
end
open Go.RowKit Lx Proofs.Tryz
theorem I4(s:List UInt8)(w:World):Calls prog 91 #[sv s] w (Qb (Df s) w):=by
 unfold sv Qb;by_cases h:s=[33]
 ·subst h;go_enter func91,ntmps91;go_wp2_with fail;go_ret;exact⟨Bv (a:=true) (by decide),AB w none⟩
 have ae:(s==[33])=false:=Bd h;by_cases z:s=[123]
 ·subst z;go_enter func91,ntmps91;go_wp2_with fail;go_ret;exact⟨Bv (a:=true) (by decide),AB w none⟩
 have af:(s==[123])=false:=Bd z;by_cases F:s=[125]
 ·subst F;go_enter func91,ntmps91;go_wp2_with fail;go_ret;exact⟨Bv (a:=true) (by decide),AB w none⟩
 have ag:(s==[125])=false:=Bd F;by_cases G:s=[99,97,115,101]
 ·subst G;go_enter func91,ntmps91;go_wp2_with fail;go_ret;exact⟨Bv (a:=true) (by decide),AB w none⟩
 have ah:(s==[99,97,115,101])=false:=Bd G;by_cases I:s=[100,111]
 ·subst I;go_enter func91,ntmps91;go_wp2_with fail;go_ret;exact⟨Bv (a:=true) (by decide),AB w none⟩
 have ai:(s==[100,111])=false:=Bd I;by_cases J:s=[100,111,110,101]
 ·subst J;go_enter func91,ntmps91;go_wp2_with fail;go_ret;exact⟨Bv (a:=true) (by decide),AB w none⟩
 have aj:(s==[100,111,110,101])=false:=Bd J;by_cases K:s=[101,108,105,102]
 ·subst K;go_enter func91,ntmps91;go_wp2_with fail;go_ret;exact⟨Bv (a:=true) (by decide),AB w none⟩
 have ak:(s==[101,108,105,102])=false:=Bd K;by_cases L:s=[101,108,115,101]
 ·subst L;go_enter func91,ntmps91;go_wp2_with fail;go_ret;exact⟨Bv (a:=true) (by decide),AB w none⟩
 have al:(s==[101,108,115,101])=false:=Bd L;by_cases M:s=[101,115,97,99]
 ·subst M;go_enter func91,ntmps91;go_wp2_with fail;go_ret;exact⟨Bv (a:=true) (by decide),AB w none⟩
 have am:(s==[101,115,97,99])=false:=Bd M;by_cases N:s=[102,105]
 ·subst N;go_enter func91,ntmps91;go_wp2_with fail;go_ret;exact⟨Bv (a:=true) (by decide),AB w none⟩
 have an:(s==[102,105])=false:=Bd N;by_cases O:s=[102,111,114]
 ·subst O;go_enter func91,ntmps91;go_wp2_with fail;go_ret;exact⟨Bv (a:=true) (by decide),AB w none⟩
 have ao:(s==[102,111,114])=false:=Bd O;by_cases W:s=[105,102]
 ·subst W;go_enter func91,ntmps91;go_wp2_with fail;go_ret;exact⟨Bv (a:=true) (by decide),AB w none⟩
 have ap:(s==[105,102])=false:=Bd W;by_cases X:s=[105,110]
 ·subst X;go_enter func91,ntmps91;go_wp2_with fail;go_ret;exact⟨Bv (a:=true) (by decide),AB w none⟩
 have aq:(s==[105,110])=false:=Bd X;by_cases aa:s=[116,104,101,110]
 ·subst aa;go_enter func91,ntmps91;go_wp2_with fail;go_ret;exact⟨Bv (a:=true) (by decide),AB w none⟩
 have ar:(s==[116,104,101,110])=false:=Bd aa;by_cases ab:s=[117,110,116,105,108]
 ·subst ab;go_enter func91,ntmps91;go_wp2_with fail;go_ret;exact⟨Bv (a:=true) (by decide),AB w none⟩
 have au:(s==[117,110,116,105,108])=false:=Bd ab;by_cases ac:s=[119,104,105,108,101]
 ·subst ac;go_enter func91,ntmps91;go_wp2_with fail;go_ret;exact⟨Bv (a:=true) (by decide),AB w none⟩
 have aw:(s==[119,104,105,108,101])=false:=Bd ac;have ad:Df s=false:=by
  unfold Df Lh;simp only[List.contains_cons,List.contains_nil,Bool.or_false];simp only[Da,GM,C4,GQ,ER,BX,Fl,Fa,DG,IH,JS,Ph,F1,Fb,Dk,Dv,ae,af,ag,ah,ai,aj,ak,al,am,an,ao,ap,aq,ar,au,aw,Bool.or_false]
 have ax:=Z ad;clear ad;go_enter func91,ntmps91;go_wp2_with fail;go_ret;exact⟨Bv (a:=false) (by rw[ax.out]),AB w none⟩
def Ou(s:List UInt8):Bool:=GJ.contains s
theorem IZ(s:List UInt8)(w:World):Calls prog 90 #[sv s] w (Qb (Ou s) w):=by
 unfold sv Qb;by_cases h:s=[60]
 ·subst h;go_enter func90,ntmps90;go_wp2_with fail;go_ret;exact⟨Bv (a:=true) (by decide),AB w none⟩
 have M:(s==[60])=false:=Bd h;by_cases z:s=[62]
 ·subst z;go_enter func90,ntmps90;go_wp2_with fail;go_ret;exact⟨Bv (a:=true) (by decide),AB w none⟩
 have N:(s==[62])=false:=Bd z;by_cases F:s=[62,62]
 ·subst F;go_enter func90,ntmps90;go_wp2_with fail;go_ret;exact⟨Bv (a:=true) (by decide),AB w none⟩
 have O:(s==[62,62])=false:=Bd F;by_cases G:s=[60,38]
 ·subst G;go_enter func90,ntmps90;go_wp2_with fail;go_ret;exact⟨Bv (a:=true) (by decide),AB w none⟩
 have W:(s==[60,38])=false:=Bd G;by_cases I:s=[62,38]
 ·subst I;go_enter func90,ntmps90;go_wp2_with fail;go_ret;exact⟨Bv (a:=true) (by decide),AB w none⟩
 have X:(s==[62,38])=false:=Bd I;by_cases J:s=[60,62]
 ·subst J;go_enter func90,ntmps90;go_wp2_with fail;go_ret;exact⟨Bv (a:=true) (by decide),AB w none⟩
 have aa:(s==[60,62])=false:=Bd J;by_cases K:s=[62,124]
 ·subst K;go_enter func90,ntmps90;go_wp2_with fail;go_ret;exact⟨Bv (a:=true) (by decide),AB w none⟩
 have ab:(s==[62,124])=false:=Bd K;have L:Ou s=false:=by
  unfold Ou GJ;simp only[List.contains_cons,List.contains_nil,Bool.or_false];simp only[M,N,O,W,X,aa,ab,Bool.or_false]
 have ac:=Z L;clear L;go_enter func90,ntmps90;go_wp2_with fail;go_ret;exact⟨Bv (a:=false) (by rw[ac.out]),AB w none⟩
theorem Yb{f:Bool}{c:UInt8}{r:List UInt8}(h:(FF c||(!f&&Gp c))=true):Fp f (c::r)=Fp false r+1:=by
 show(if _ then _ else _)=_;rw[Ai h]
theorem Yc{f:Bool}{c:UInt8}{r:List UInt8}(h:¬(FF c||(!f&&Gp c))=true):Fp f (c::r)=0:=by
 show(if _ then _ else _)=_;rw[AP h]
theorem J3(s:List UInt8)(w:World)(hs:s.length<=9223372036854775807):Calls prog 116 #[sv s] w fun e w'=>e=.returned (.int .i64 (Gq s))/\w'=w:=by
 have an:=sz s;unfold sv Gq;go_enter func116,ntmps116;go_wp2_with fail;go_loopg [3,4] s.length (fun g aj ao wr=> ∃k:Nat,aj=.int .i64 k/\k<=s.length/\s.length-k<=g/\Fp true s=k+Fp (decide (k=0)) (s.drop k)/\wr=w);case atStart=>exact⟨0,rfl,DD _,BN _,by simp,rfl⟩
 case round=>
  obtain⟨k,rfl,hk,af,L,rfl⟩:=hrel;have G:=Z af;clear af;by_cases ag:k<s.length
  ·have ak:decide ((k:Int)<(s.length:Int))=true:=Au (by omega);have al:=BE s k ag;have ap:(0:Int)<=k/\(k:Int)<(s.length:Int):=(by omega);have aa:=CF ag;obtain⟨c,ah⟩:=U (s[k]);rw[ah]at al aa;rw[aa]at L;have O:=Z (fun ab:(FF c||(!decide (k=0)&&Gp c))=true=>(show Fp true s=(k+1)+Fp (decide (k+1=0)) (s.drop (k+1)) by
    rw[L,Yb ab,show decide (k+1=0)=false from rfl];omega))
   have J:=Z (fun ab:¬(FF c||(!decide (k=0)&&Gp c))=true=>(show Fp true s=k by
    rw[Yc ab]at L;omega))
   clear ah aa L;by_cases aq:97<=c.toNat/\c.toNat<=122
   ·have M:decide ((97:Int)<=(c.toNat:Int))=true:=Au (by omega);have am:decide ((c.toNat:Int)<=122)=true:=Au (by omega);have K:=Z (O.out (by rw[show FF c=true by unfold FF;simp only[GX,Di];omega];rfl));go_wp2_with fail;go_roundg (gk-1);case rel=>exact⟨k+1,by go_num,by omega,by have:=G.out;omega,K.out,rfl⟩
    case measure=>have:=G.out;omega
   ·skip
    by_cases ar:65<=c.toNat/\c.toNat<=90
    ·have M:decide ((97:Int)<=(c.toNat:Int))=false:=As (by omega);have W:decide ((65:Int)<=(c.toNat:Int))=true:=Au (by omega);have ac:decide ((c.toNat:Int)<=90)=true:=Au (by omega);have K:=Z (O.out (by rw[show FF c=true by unfold FF;simp only[GX,Di];omega];rfl));go_wp2_with fail;go_roundg (gk-1);case rel=>exact⟨k+1,by go_num,by omega,by have:=G.out;omega,K.out,rfl⟩
     case measure=>have:=G.out;omega
    ·skip
     by_cases au:c.toNat=95
     ·have M:decide ((97:Int)<=(c.toNat:Int))=false:=As (by omega);have W:decide ((65:Int)<=(c.toNat:Int))=true:=Au (by omega);have ac:decide ((c.toNat:Int)<=90)=false:=As (by omega);have ad:((c.toNat:Int)==95)=true:=(by rw[DQ];omega);have K:=Z (O.out (by rw[show FF c=true by unfold FF;simp only[GX,Di];omega];rfl));go_wp2_with fail;go_roundg (gk-1);case rel=>exact⟨k+1,by go_num,by omega,by have:=G.out;omega,K.out,rfl⟩
      case measure=>have:=G.out;omega
     ·skip
      by_cases z3:122<c.toNat
      ·have M:decide ((97:Int)<=(c.toNat:Int))=true:=Au (by omega);have am:decide ((c.toNat:Int)<=122)=false:=As (by omega);have W:decide ((65:Int)<=(c.toNat:Int))=true:=Au (by omega);have ac:decide ((c.toNat:Int)<=90)=false:=As (by omega);have ad:((c.toNat:Int)==95)=false:=(by rw[A4];omega);have h:FF c=false:=(by unfold FF;simp only[Bool.or_eq_false_iff,Ex];omega);by_cases I:k=0
       ·subst I;have N:(((0:Nat):Int)==0)=true:=rfl;have z:=Z (J.out (by rw[h];simp));clear h;go_wp2_with fail;go_ret;exact⟨N7 (by have:=z.out;omega),rfl⟩
       ·have N:((k:Int)==0)=false:=(by rw[A4];omega);have F:decide (k=0)=false:=As I;have X:decide ((c.toNat:Int)<48)=false:=As (by omega);have ae:decide ((57:Int)<(c.toNat:Int))=true:=Au (by omega);have z:=Z (J.out (by rw[h,F,show Gp c=false from As (by omega)];simp));clear h F;go_wp2_with fail;go_ret;exact⟨N7 (by have:=z.out;omega),rfl⟩
      ·skip
       by_cases aw:90<c.toNat
       ·have M:decide ((97:Int)<=(c.toNat:Int))=false:=As (by omega);have W:decide ((65:Int)<=(c.toNat:Int))=true:=Au (by omega);have ac:decide ((c.toNat:Int)<=90)=false:=As (by omega);have ad:((c.toNat:Int)==95)=false:=(by rw[A4];omega);have h:FF c=false:=(by unfold FF;simp only[Bool.or_eq_false_iff,Ex];omega);by_cases I:k=0
        ·subst I;have N:(((0:Nat):Int)==0)=true:=rfl;have z:=Z (J.out (by rw[h];simp));clear h;go_wp2_with fail;go_ret;exact⟨N7 (by have:=z.out;omega),rfl⟩
        ·have N:((k:Int)==0)=false:=(by rw[A4];omega);have F:decide (k=0)=false:=As I;have X:decide ((c.toNat:Int)<48)=false:=As (by omega);have ae:decide ((57:Int)<(c.toNat:Int))=true:=Au (by omega);have z:=Z (J.out (by rw[h,F,show Gp c=false from As (by omega)];simp));clear h F;go_wp2_with fail;go_ret;exact⟨N7 (by have:=z.out;omega),rfl⟩
       ·skip
        have M:decide ((97:Int)<=(c.toNat:Int))=false:=As (by omega);have W:decide ((65:Int)<=(c.toNat:Int))=false:=As (by omega);have ad:((c.toNat:Int)==95)=false:=(by rw[A4];omega);have h:FF c=false:=(by unfold FF;simp only[Bool.or_eq_false_iff,Ex];omega);by_cases I:k=0
        ·subst I;have N:(((0:Nat):Int)==0)=true:=rfl;have z:=Z (J.out (by rw[h];simp));clear h;go_wp2_with fail;go_ret;exact⟨N7 (by have:=z.out;omega),rfl⟩
        ·have N:((k:Int)==0)=false:=(by rw[A4];omega);have F:decide (k=0)=false:=As I;by_cases d48:c.toNat<48
         ·have X:decide ((c.toNat:Int)<48)=true:=Au (by omega);have z:=Z (J.out (by rw[h,F,show Gp c=false from As (by omega)];simp));clear h F;go_wp2_with fail;go_ret;exact⟨N7 (by have:=z.out;omega),rfl⟩
         ·by_cases d57:57<c.toNat
          ·have X:decide ((c.toNat:Int)<48)=false:=As (by omega);have ae:decide ((57:Int)<(c.toNat:Int))=true:=Au (by omega);have z:=Z (J.out (by rw[h,F,show Gp c=false from As (by omega)];simp));clear h F;go_wp2_with fail;go_ret;exact⟨N7 (by have:=z.out;omega),rfl⟩
          ·have X:decide ((c.toNat:Int)<48)=false:=As (by omega);have ae:decide ((57:Int)<(c.toNat:Int))=false:=As (by omega);have K:=Z (O.out (by rw[h,F,show Gp c=true from Au (by omega)];rfl));clear h F;go_wp2_with fail;go_roundg (gk-1);case rel=>exact⟨k+1,by go_num,by omega,by have:=G.out;omega,K.out,rfl⟩
           case measure=>have:=G.out;omega
  ·obtain rfl:k=s.length:=by omega
   have ak:decide ((s.length:Int)<(s.length:Int))=false:=As (by omega);have ai:Fp true s=s.length:=(by rw[L,IG (BN _)];show s.length+0=_;omega);clear L;have z:=Z ai;clear ai;go_wp2_with fail;go_ret;exact⟨N7 (by have:=z.out;omega),rfl⟩
theorem TD(s:List UInt8)(w:World)(hs:s.length<=9223372036854775807):Calls prog 128 #[sv s] w (Qb (GC s) w):=by
 have ab:=sz s;have F:=Z (fun M=>J3 s M hs);have h:=Z (show GC s=(decide (0<Gq s)&&decide (Gq s<s.length)&&(s.getD (Gq s) 0==61))from rfl);obtain⟨k,hk⟩:=U (Gq s);rw[hk]at F h;unfold sv at F⊢;unfold Qb;clear hk;by_cases N:0<k
 ·have O:decide ((0:Int)<(k:Int))=true:=Au (by omega);by_cases I:k<s.length
  ·have W:decide ((k:Int)<(s.length:Int))=true:=Au (by omega);have X:=BE s k I;have ac:(0:Int)<=k/\(k:Int)<(s.length:Int):=(by omega);have K:s.getD k 0=s[k]:=(by rw[EK,CZ I];rfl);rw[K,Au N,Au I]at h;obtain⟨c,L⟩:=U (s[k]);rw[L]at X h;clear L K;by_cases G:c=61
   ·have aa:((c.toNat:Int)==61)=true:=(by rw[G];rfl);have z:=Z (show GC s=true by rw[h.out,G];rfl);clear G;go_enter func128,ntmps128;go_wp2_with fail;refine(F.out _).mono ?_;rintro e J ⟨rfl,rfl⟩;go_wp2_with fail;go_ret;exact⟨Bv (a:=true) z.out.symm,AB _ none⟩
   ·have aa:((c.toNat:Int)==61)=false:=by
     rw[A4];intro e;exact G (UInt8.toNat_inj.1 (show c.toNat=(61:UInt8).toNat by rw[show(61:UInt8).toNat=61 from rfl];omega))
    have z:=Z (show GC s=false by rw[h.out,Bd G];rfl);clear G;go_enter func128,ntmps128;go_wp2_with fail;refine(F.out _).mono ?_;rintro e J ⟨rfl,rfl⟩;go_wp2_with fail;go_ret;exact⟨Bv (a:=false) z.out.symm,AB _ none⟩
  ·have W:decide ((k:Int)<(s.length:Int))=false:=As (by omega);have z:=Z (show GC s=false by rw[h.out,As I];simp);go_enter func128,ntmps128;go_wp2_with fail;refine(F.out _).mono ?_;rintro e J ⟨rfl,rfl⟩;go_wp2_with fail;go_ret;exact⟨Bv (a:=false) z.out.symm,AB _ none⟩
 ·obtain rfl:k=0:=by omega
  have O:decide ((0:Int)<((0:Nat):Int))=false:=rfl;have z:=Z (show GC s=false by rw[h.out];rfl);go_enter func128,ntmps128;go_wp2_with fail;refine(F.out _).mono ?_;rintro e J ⟨rfl,rfl⟩;go_wp2_with fail;go_ret;exact⟨Bv (a:=false) z.out.symm,AB _ none⟩
def FC:DS->DS
 | .ok (t::r) d=> .er t.a (if t.k=4 then 23 else 17)
 | .ok [] d=> .ok [] d
 | .er a e=> .er a e
theorem BU.wr{w:World}{rb:Nat}{T:List AY}{F:DS}(h:BU w rb T F):∃z a d e f,IA w rb T z a d e f/\ ∀t r,T.drop a=t::r->FC F=N8 t.a (if t.k=4 then 23 else 17) F:=by
 cases F with
 |ok ts d=>
  obtain⟨z,a,f,h,G,_⟩:=h;exact⟨z,a,d,0,f,h,fun t r e=>by rw[<-G,e];rfl⟩
 |er x k=>
  obtain⟨z,i,d,h,_⟩:=h;exact⟨z,i,d,_,_,h,fun t r _=>rfl⟩
theorem EX(rb:Nat)(T:List AY)(J:DS)(w:World)(z:BU w rb T J):Calls prog 49 #[.pointer (some ⟨rb,0,none⟩)] w (Qu rb T (FC J) w):=by
 have N:=Z (fun x k h (hk:k≠0) (aj:w.grownBy h none)=>Lv rb T J x k hk h (z.grown aj));obtain⟨aq,a,d,e,f,z,ab⟩:=z.wr;obtain⟨ac,ak,ar,c3,c4⟩:=z.cells;obtain⟨g,F,ad,t,r,rfl,al,K,ae,t0,t1,t2⟩:=z.Dh;have lb:=z.lb;have am:=z.lt;have an:(0:Int)<=(a:Int)/\(a:Int)<((T.length:Nat):Int):=(by omega);have af:=z.tg.len;obtain⟨ag,ah⟩:=U T.length;rw[ah]at ac an al af;have L:=Z (ab t r ae);clear z am ae ah ab af;obtain⟨G,O,W⟩:=t;simp only[]at t0 t1 t2 L;obtain⟨R,ai⟩:=U (FC J);rw[ai]at L⊢;clear ai;unfold Qu at N⊢;go_enter func49,ntmps49;go_upto_region 0 with(fail);have ao:Hid (∀h:World,w.grownBy h none->(h.cell? ⟨rb,0,none⟩=some (.slice (some ⟨g,F,none⟩) ag ad)/\h.cell? ⟨rb,1,none⟩=some (.int .i64 a)/\h.cell? ⟨g,F+a*3,none⟩=some (.int .i64 G)/\h.cell? ⟨g,F+a*3+1,none⟩=some (.string ⟨O.toArray⟩)/\h.cell? ⟨g,F+a*3+2,none⟩=some (.int .i64 W))):=
  Z (fun h I=>⟨AH I lb ac,AH I lb ak,AH I K t0,AH I K t1,AH I K t2⟩)
 go_region_held3 (fun h=>h.cell? ⟨rb,0,none⟩=some (.slice (some ⟨g,F,none⟩) ag ad)/\h.cell? ⟨rb,1,none⟩=some (.int .i64 a)/\h.cell? ⟨g,F+a*3,none⟩=some (.int .i64 G)/\h.cell? ⟨g,F+a*3+1,none⟩=some (.string ⟨O.toArray⟩)/\h.cell? ⟨g,F+a*3+2,none⟩=some (.int .i64 W))
  (first|go_keep|exact ao.out _ (by repeat' (first|(with_reducible exact AB _ _)|(with_reducible refine Af ?_ ?_ _)|(with_reducible refine AI ?_ K)|(with_reducible refine Ah ?_)|(with_reducible refine AF ?_ _)|omega|(simp;done))))
  (fail)
 have M:=Ah (AF (AB w none) (.cells #[.int .i64 G,.string ⟨O.toArray⟩,.int .i64 W] 69));by_cases hk:G=4
 ·subst hk;go_wp2_with fail;refine(N.out _ _ _ (by decide) M).mono ?_;rintro e ap ⟨rfl,X,aa⟩;go_wp2_with fail;refine bodyPost_end (results_none rfl _ _ _) rfl ⟨rfl,by rw[L.out];simpa using X,AJ (Cc M _) aa⟩
 ·have q:((G:Int)==4)=false:=(by rw[A4];omega);go_wp2_with fail;refine(N.out _ _ _ (by decide) M).mono ?_;rintro e ap ⟨rfl,X,aa⟩;go_wp2_with fail;refine bodyPost_end (results_none rfl _ _ _) rfl ⟨rfl,by rw[L.out];simpa [hk]using X,AJ (Cc M _) aa⟩
def CG(s:List UInt8):DS->DS
 | .ok ts d=>if BT ts s=true then .ok ts.tail d else FC (.ok ts d)
 | .er a e=> .er a e
theorem Bt{a b:World}{rb:Nat}(h:a.grownBy b none):a.grownBy b (some rb):=Cc h _
theorem BU.next{w:World}{rb:Nat}{T:List AY}{ts:List AY}{d:Nat}{h:Value}{a:Nat}{f:Int}(z:IA w rb T h a d 0 f)(F:T.drop a=ts)(G:d<=26){t:AY}{r:List AY}(I:ts=t::r)(hk:t.k≠4):BU (w.setCell ⟨rb,1,none⟩ (.int .i64 ((a:Int)+1))) rb T (.ok r d):=by
 obtain⟨J,K⟩:=z.step (F.trans I) hk;exact⟨h,a+1,f,J,K,G⟩
theorem Ge(rb:Nat)(T:List AY)(h:DS)(s:List UInt8)(w:World)(z:BU w rb T h):Calls prog 118 #[.pointer (some ⟨rb,0,none⟩),sv s] w (Qu rb T (CG s h) w):=by
 have N:=Z (fun F (K:BU F rb T h)=>FE rb T h s F K);have O:=Z (fun F (K:BU F rb T h)=>Gg rb T h s F K);have ai:=Z (fun F (K:BU F rb T h)=>EX rb T h F K);have W:=Z z;unfold Qb sv at N O;unfold Qu at ai⊢;unfold sv;obtain⟨x,hx⟩:=U (Je h s);obtain⟨y,hy⟩:=U (Lj h s);have J:=Z (BC hx hy);rw[hx]at N;rw[hy]at O;clear z hx hy;by_cases L:x=false/\y=false
 ·obtain⟨rfl,rfl⟩:=L;have ac:=Z (show CG s h=FC h by
   cases h with
   |er a e=>rfl
   |ok ts d=>
    have am:Dx ts s=false:=J.out.1;have an:GD ts s=false:=J.out.2;show(if BT ts s=true then _ else _)=_;unfold BT;rw[am,an];rfl)
  rw[ac.out];go_enter func118,ntmps118;go_wp2_with fail;refine(N.out _ W.out).mono ?_;rintro e ao ⟨rfl,G⟩;have M:=Z (W.out.grown G);have ad:=Z G;clear G;go_wp2_with fail;refine(O.out _ M.out).mono ?_;rintro e aj ⟨rfl,I⟩;have ap:=Z (M.out.grown I);have X:=Z (AI ad.out I);clear I;go_wp2_with fail;refine(ai.out _ ap.out).mono ?_;rintro e aB ⟨rfl,aq,ar⟩;go_wp2_with fail;refine bodyPost_ret (results_none rfl _ _ _) rfl ⟨rfl,aq,AJ (Bt X.out) ar⟩
 ·cases h with
  |er a e=>exact Aj ⟨J.out.1.symm,J.out.2.symm⟩ L
  |ok ts d=>
   have ae:BT ts s=true:=by
    unfold BT;rw[show Dx ts s=x from J.out.1,show GD ts s=y from J.out.2];cases x<;>cases y<;>first|rfl|exact Aj ⟨rfl,rfl⟩ L
   have ac:=Z (show CG s (.ok ts d)=.ok ts.tail d from Ai ae);rw[ac.out];have au:=Z ae;clear ae;go_enter func118,ntmps118;go_wp2_with fail;refine(N.out _ W.out).mono ?_;rintro e ao ⟨rfl,G⟩;have M:=Z (W.out.grown G);have ad:=Z G;clear G;go_wp2_with fail;refine(O.out _ M.out).mono ?_;rintro e aj ⟨rfl,I⟩;obtain⟨aw,a,f,z,af,ag⟩:=M.out.grown I;have X:=Z (AI ad.out I);obtain⟨t,r,aa⟩:=(BU.Ak (w:=aj) (rb:=rb) (T:=T) ⟨aw,a,f,z,af,ag⟩).1.ne;have ak:=Z (BU.next z af ag aa (GL (aa▸au.out)).1);have al:=Z (show ts.tail=r by rw[aa];rfl);obtain⟨aC,aD,aE,c3,c4⟩:=z.cells;have lb:=z.lb;have aF:=Y.frozen z.BF 1;have aG:(a:Int)<=500:=(by have:=z.lt;have:=z.tg.len;omega);clear I z af ag aa;have ax:∀(ab:Prop),(x=true->ab)->(x=false->y=true->ab)->ab:=fun ab ay az=>by
    cases x with
    |true=>exact ay rfl
    |false=>
     cases y with
     |true=>exact az rfl rfl
     |false=>exact Aj ⟨rfl,rfl⟩ L
   clear L;refine ax _ (fun ah=>?_) (fun ah aA=>?_)
   ·subst ah;go_wp2_with fail;refine bodyPost_end (results_none rfl _ _ _) rfl ⟨rfl,by rw[al.out];exact ak.out,AN (Bt X.out) (p:=⟨rb,1,none⟩) (.inl rfl) _⟩
   ·subst ah aA;go_wp2_with fail;refine bodyPost_end (results_none rfl _ _ _) rfl ⟨rfl,by rw[al.out];exact ak.out,AN (Bt X.out) (p:=⟨rb,1,none⟩) (.inl rfl) _⟩
def B9:DS->DS
 | .ok ts d=> .ok (AG ts) d
 | .er a e=> .er a e
theorem DM(rb:Nat)(T:List AY)(F:DS)(w:World)(h:BU w rb T F):Calls prog 47 #[.pointer (some ⟨rb,0,none⟩)] w (Qu rb T (B9 F) w):=by
 have N:=Z (fun G F (K:BU G rb T F)=>FE rb T F GI G K);have O:=Z h;unfold Qb sv GI at N;unfold Qu;cases F with
 |er x k=>
  have I:=Z (fun G K=>N.out G (.er x k) K);unfold Je at I;simp only[]at I;unfold B9;clear h;go_enter func47,ntmps47;go_wp2_with fail;go_loopg [] 0 (fun g wr=>wr=w);case atStart=>rfl
  case round=>
   subst hrel;go_wp2_with fail;refine(I.out _ O.out).mono ?_;rintro e ab ⟨rfl,z⟩;go_wp2_with fail;refine bodyPost_end (results_none rfl _ _ _) rfl ⟨rfl,O.out.grown z,Bt z⟩
 |ok ts d=>
  unfold B9;simp only[];obtain⟨B,W⟩:=U (AG ts);rw[W];have ak:=Z W;clear h W;go_enter func47,ntmps47;go_wp2_with fail;go_loopg [] ts.length (fun g wr=> ∃L,AG L=B/\L.length<=g/\BU wr rb T (.ok L d)/\w.grownBy wr (some rb));case atStart=>exact⟨ts,ak.out,BN _,O.out,AB w _⟩
  case round=>
   obtain⟨L,ac,ad,X,ae⟩:=hrel;obtain⟨t,r,rfl⟩:=X.Ak.1.ne;have af:=Z ac;have M:=Z X;have ag:=Z ae;have ah:=Z ad;clear ac X ae ad;obtain⟨c,J⟩:=U (Dx (t::r) [10]);have I:=Z (fun G K=>by have:=N.out G (.ok (t::r) d) K;unfold Je at this;simp only[]at this;rw[J]at this;exact this);cases c with
   |true=>
    have al:=Z (MK J).1;have aa:=Z (show AG r=B by
     rw[<-af.out];show _=(if _ then _ else _);rw[Ai (show(t.k==2&&t.t==GI)=true from J)])
    clear J;go_wp2_with fail;refine(I.out _ M.out).mono ?_;rintro e ab ⟨rfl,z⟩;obtain⟨aq,a,f,h,ai,aj⟩:=M.out.grown z;have am:=Z (AJ ag.out (Bt z));have an:=Z (BU.next h ai aj rfl (by have:=al.out;omega));obtain⟨ar,au,aw,c3,c4⟩:=h.cells;have lb:=h.lb;have ax:=Y.frozen h.BF 1;have ay:(a:Int)<=500:=(by have:=h.lt;have:=h.tg.len;omega);clear z h ai aj;go_wp2_with fail;go_roundg (gk-1);case rel=>exact⟨r,aa.out,by have:=ah.out;simp only[BR]at this;omega,an.out,AN am.out (p:=⟨rb,1,none⟩) (.inl rfl) _⟩
    case measure=>have:=ah.out;simp only[BR]at this;omega
   |false=>
    have aa:=Z (show t::r=B by
     rw[<-af.out];show _=(if _ then _ else _);rw[AP (show¬(t.k==2&&t.t==GI)=true from by rw[show(t.k==2&&t.t==GI)=false from J];decide)])
    clear J;go_wp2_with fail;refine(I.out _ M.out).mono ?_;rintro e ab ⟨rfl,z⟩;have ao:=Z (M.out.grown z);have ap:=Z (AJ ag.out (Bt z));clear z;go_wp2_with fail;refine bodyPost_end (results_none rfl _ _ _) rfl ⟨rfl,by rw[<-aa.out];exact ao.out,ap.out⟩
def GR:DS->Bool
 | .ok ts _=>BZ ts
 | .er _ _=>false
theorem KG(rb:Nat)(T:List AY)(aa:DS)(w:World)(G:BU w rb T aa):Calls prog 72 #[.pointer (some ⟨rb,0,none⟩)] w (Qb (GR aa) w):=by
 cases aa with
 |er x k=>
  obtain⟨aE,i,d,G,hk⟩:=G;obtain⟨ab,ag,aF,c3,c4⟩:=G.cells;have lb:=G.lb;have q:(k !=0)=true:=JY hk;unfold Qb GR;clear G;go_enter func72,ntmps72;go_wp2_with fail;go_ret;exact⟨rfl,AB w none⟩
 |ok ts d=>
  obtain⟨aE,a,f,G,ah,_⟩:=G;obtain⟨ab,ag,aF,c3,c4⟩:=G.cells;obtain⟨g,K,ai,t,r,rfl,aG,O,aj,t0,t1,t2⟩:=G.Dh;have lb:=G.lb;have aH:=G.lt;have aI:(0:Int)<=(a:Int)/\(a:Int)<((T.length:Nat):Int):=(by omega);have ak:=G.tg.len;obtain⟨al,am⟩:=U T.length;rw[am]at ab aI aG ak;have an:=Z (show GR (.ok ts d)=(Fj t||FO t||t.k==3||(t.k==1&&(t.t==Da||t.t==F1||!Df t.t))) by rw[<-ah,aj];rfl);have W:=Z (fun F=>IZ t.t F);have X:=Z (fun F=>I4 t.t F);clear G aH ah aj am ak;obtain⟨z,h,ac⟩:=t;simp only[]at t0 t1 t2 an W X;have L:=Z (an.out.trans (show _=((z==2&&(h==[40]||Ou h))||(z==3)||(z==1&&(Fi.contains h||h==[33]||h==[105,110]||!Df h))) by
   unfold Fj FO Da F1 Bz Ou;simp only[];generalize (z==1)=aJ,(z==2)=aK,(z==3)=aL,(h==[40])=aM,GJ.contains h=aN,Fi.contains h=aO,(h==[33])=aP,(h==[105,110])=aQ,Df h=aR;revert aJ aK aL aM aN aO aP aQ aR
   decide))
  unfold Qb sv at W X;obtain⟨ao,ap⟩:=U (Ou h);obtain⟨ad,ae⟩:=U (Df h);rw[ap]at W L;rw[ae]at X L;have a6:=Z ae;clear ap ae;unfold Qb;go_enter func72,ntmps72;go_upto_region 3 with(fail);have aS:Hid (∀F:World,w.grownBy F none->(F.cell? ⟨rb,0,none⟩=some (.slice (some ⟨g,K,none⟩) al ai)/\F.cell? ⟨rb,1,none⟩=some (.int .i64 a)/\F.cell? ⟨g,K+a*3,none⟩=some (.int .i64 z)/\F.cell? ⟨g,K+a*3+1,none⟩=some (.string ⟨h.toArray⟩)/\F.cell? ⟨g,K+a*3+2,none⟩=some (.int .i64 ac))):=
   Z (fun F N=>⟨AH N lb ab,AH N lb ag,AH N O t0,AH N O t1,AH N O t2⟩)
  go_region_held3 (fun F=>F.cell? ⟨rb,0,none⟩=some (.slice (some ⟨g,K,none⟩) al ai)/\F.cell? ⟨rb,1,none⟩=some (.int .i64 a)/\F.cell? ⟨g,K+a*3,none⟩=some (.int .i64 z)/\F.cell? ⟨g,K+a*3+1,none⟩=some (.string ⟨h.toArray⟩)/\F.cell? ⟨g,K+a*3+2,none⟩=some (.int .i64 ac))
   (first|go_keep|exact aS.out _ (by repeat' (first|(with_reducible exact AB _ _)|(with_reducible refine Af ?_ ?_ _)|(with_reducible refine AI ?_ O)|(with_reducible refine Ah ?_)|(with_reducible refine AF ?_ _)|omega|(simp;done))))
   (fail)
  have I:=Z (Ah (AF (AB w none) (.cells #[.int .i64 z,.string ⟨h.toArray⟩,.int .i64 ac] 69)));by_cases aq:z=2
  ·subst aq;by_cases M:h=[40]
   ·subst M;go_wp2_with fail;go_ret;exact⟨Bv (a:=true) (by rw[L.out];rfl),I.out⟩
   ·have ar:(h==[40])=false:=Bd M;have J:=Z (show GR (.ok ts d)=ao by rw[L.out,ar];simp);clear M;go_wp2_with fail;refine(W.out _).mono ?_;rintro e aT ⟨rfl,af⟩;go_wp2_with fail;go_ret;exact⟨Bv (a:=ao) J.out.symm,AI I.out af⟩
  ·have a7:((z:Int)==2)=false:=(by rw[A4];omega);have aU:=Z (show(z==2)=false by rw[A4];exact aq);by_cases au:z=3
   ·subst au;go_wp2_with fail;go_ret;exact⟨Bv (a:=true) (by rw[L.out];rfl),I.out⟩
   ·have a8:((z:Int)==3)=false:=(by rw[A4];omega);have aV:=Z (show(z==3)=false by rw[A4];exact au);by_cases aw:z=1
    ·subst aw;have J:=Z (show GR (.ok ts d)=(Fi.contains h||h==[33]||h==[105,110]||!ad) by rw[L.out];simp);by_cases ax:h=[33]
     ·subst ax;go_wp2_with fail;go_ret;exact⟨Bv (a:=true) (by rw[J.out];rfl),I.out⟩
     have aW:(h==[33])=false:=Bd ax;by_cases M:h=[123]
     ·subst M;go_wp2_with fail;go_ret;exact⟨Bv (a:=true) (by rw[J.out];rfl),I.out⟩
     have aX:(h==[123])=false:=Bd M;by_cases ay:h=[99,97,115,101]
     ·subst ay;go_wp2_with fail;go_ret;exact⟨Bv (a:=true) (by rw[J.out];rfl),I.out⟩
     have aY:(h==[99,97,115,101])=false:=Bd ay;by_cases az:h=[102,111,114]
     ·subst az;go_wp2_with fail;go_ret;exact⟨Bv (a:=true) (by rw[J.out];rfl),I.out⟩
     have aZ:(h==[102,111,114])=false:=Bd az;by_cases aA:h=[105,102]
     ·subst aA;go_wp2_with fail;go_ret;exact⟨Bv (a:=true) (by rw[J.out];rfl),I.out⟩
     have a0:(h==[105,102])=false:=Bd aA;by_cases aB:h=[105,110]
     ·subst aB;go_wp2_with fail;go_ret;exact⟨Bv (a:=true) (by rw[J.out];rfl),I.out⟩
     have a1:(h==[105,110])=false:=Bd aB;by_cases aC:h=[117,110,116,105,108]
     ·subst aC;go_wp2_with fail;go_ret;exact⟨Bv (a:=true) (by rw[J.out];rfl),I.out⟩
     have a2:(h==[117,110,116,105,108])=false:=Bd aC;by_cases aD:h=[119,104,105,108,101]
     ·subst aD;go_wp2_with fail;go_ret;exact⟨Bv (a:=true) (by rw[J.out];rfl),I.out⟩
     have a3:(h==[119,104,105,108,101])=false:=Bd aD;have a4:=Z (show GR (.ok ts d)=!ad by
      rw[J.out];unfold Fi;simp only[List.contains_cons,List.contains_nil,GM,Ph,Dv,Dk,JS,GQ,aW,aX,aY,aZ,a0,a1,a2,a3,Bool.or_false,Bool.false_or])
     go_wp2_with fail;refine(X.out _).mono ?_;rintro e aT ⟨rfl,af⟩;go_wp2_with fail;go_ret;exact⟨Bv (a:=!ad) a4.out.symm,AI I.out af⟩
    ·have ar:((z:Int)==1)=false:=(by rw[A4];omega);have a5:=Z (show(z==1)=false by rw[A4];exact aw);go_wp2_with fail;go_ret;exact⟨Bv (a:=false) (by rw[L.out,a5.out,aU.out,aV.out];rfl),I.out⟩
def Ky:DS->DS
 | .ok ts d=>if 24<d then(match ts with|t::_=> .er t.a 17|[]=> .er 0 17)else .ok ts (d+1)
 | .er a e=> .er a e
theorem MN(rb:Nat)(T:List AY)(ts:List AY)(d:Nat)(w:World)(h:BU w rb T (.ok ts d)):Calls prog 117 #[.pointer (some ⟨rb,0,none⟩)] w (Qu rb T (Ky (.ok ts d)) w):=by
 have z:=Z (fun x k L (hk:k≠0) (ad:BU L rb T (.ok ts d))=>Lv rb T (.ok ts d) x k hk L ad);have ae:=Z h;obtain⟨af,a,f,h,G,M⟩:=h;have N:=Z h;obtain⟨I,O,W,c3,c4⟩:=h.cells;obtain⟨g,ay,az,t,r,rfl,ag,ah,X,t0,t1,t2⟩:=h.Dh;have lb:=h.lb;have ai:=h.lt;have aj:(0:Int)<=(a:Int)/\(a:Int)<((T.length:Nat):Int):=(by omega);have aa:=h.tg.len;obtain⟨aA,ab⟩:=U T.length;rw[ab]at I aj ag aa;have ak:=Z (show ts=t::r from G.symm.trans X);have aB:(d:Int)<=26:=(by omega);have al:=Z (BC G M);clear ai G X ab aa M;obtain⟨aC,aD,am⟩:=t;simp only[]at t0 t1 t2;unfold Qu at z⊢;unfold N8 at z;simp only[]at z;by_cases F:24<d
 ·have q:decide ((24:Int)<(d:Int))=true:=Au (by omega);have J:=Z (show Ky (.ok ts d)=.er am 17 by unfold Ky;simp only[];rw[Ai F,ak.out]);rw[J.out];clear h F;go_enter func117,ntmps117;go_upto_region 1 with(fail);have K:Hid (∀n:Nat,BU (w.drewN n) rb T (.ok ts d)/\w.grownBy (w.drewN n) none):=Z (fun n=>⟨ae.out.grown (At (AB w none) n),At (AB w none) n⟩);refine Bh 12 (by kernel_rfl) (by kernel_rfl) ?_;simp only[List.take_succ_cons,List.take_zero,List.drop_succ_cons,List.drop_zero];repeat(go_big_quiet_step (fail))
  refine wpQuiet_nil ?_;rintro _ ⟨nq,rfl⟩;clear I O W c3 c4 t0 t1 t2 ah lb;go_wp2_with fail;refine(z.out _ 17 _ (by decide) (K.out nq).1).mono ?_;rintro e aE ⟨rfl,an,ac⟩;have ao:=Z (AJ (Bt (K.out nq).2) ac);clear ac;obtain⟨af,i,d2,hx,ap⟩:=an;obtain⟨I,O,W,c3,c4⟩:=hx.cells;have lb:=hx.lb;have aq:=Y.frozen hx.BF 2;have ar:=Z hx;clear hx K;go_wp2_with fail;refine bodyPost_end (results_none rfl _ _ _) rfl ⟨rfl,⟨_,i,_,ar.out.set 2 (.inl rfl) _,ap⟩,AN ao.out (p:=⟨rb,2,none⟩) (.inl rfl) _⟩
 ·have q:decide ((24:Int)<(d:Int))=false:=As (by omega);have J:=Z (show Ky (.ok ts d)=.ok ts (d+1)from AP F);rw[J.out];have aq:=Y.frozen N.out.BF 2;have au:=Z (N.out.set 2 (.inl rfl) ((d:Int)+1));have aw:(d:Int)<=24:=(by omega);have ax:=Z aw;clear h F;go_enter func117,ntmps117;go_wp2_with fail;refine bodyPost_end (results_none rfl _ _ _) rfl ⟨rfl,⟨_,a,f,au.out,al.out.1,by have:=ax.out;omega⟩,AN (AB w (some rb)) (p:=⟨rb,2,none⟩) (.inl rfl) _⟩
section
section
variable {w w' W W':World}{rb:Nat}{v:Value}{av:Nat->Prop}
theorem Vt(h:w.grownBy w' (some rb)):Az (fun k=>k=rb) w w':=Az.AL h fun k hk=>by injection hk with hk;exact hk.symm
theorem Dl(z:w.grownBy w' (some rb))(F:Bn w rb 86){e:TypeId}{s n k:Nat}{xs:List Value}(h:Own w e s v n xs k)(G:e≠86):Own w' e s v n xs k:=
 h.Bo (Vt z) fun g I e=>G ((h.AO I).uniq (e▸F))
theorem BU.AO{T:List AY}{z:DS}(h:BU w rb T z):Bn w rb 86:=by
 cases z with
 |ok ts d=>obtain⟨F,a,f,h,_⟩:=h;exact h.BF.AO
 |er x k=>obtain⟨F,i,d,h,_⟩:=h;exact h.BF.AO
theorem Bk.M6{av:Nat->Prop}{a b r p k:Value}{n:V}(h:Bk av w a b r p k n)(z:w.grownBy w' (some rb))(F:Bn w rb 86):Bk av w' a b r p k n:=by
 refine⟨Dl z F h.AZ (by decide),Dl z F h.words (by decide),Dl z F h.DJ (by decide),?_,Dl z F h.kids (by decide),h.ha,h.hb,h.hr,h.hk⟩;obtain⟨G,I,J,K⟩:=h.AT;exact⟨G,Dl z F I (by decide),J,fun i L=>by obtain⟨u,M,hs,N⟩:=K i L;exact⟨u,M,Dl z F hs (by decide),N⟩⟩
theorem Ct.M6{av:Nat->Prop}{ns:List V}(F:Ct av w v ns)(h:w.grownBy w' (some rb))(z:Bn w rb 86):Ct av w' v ns:=by
 obtain⟨G,I,J⟩:=F;exact⟨G,Dl h z I (by decide),fun i K=>by obtain⟨x,y,r,p,k,e,L⟩:=J i K;exact⟨x,y,r,p,k,e,L.M6 h z⟩⟩
def low(w0:World):Nat->Prop:=fun k=>k<w0.heap.size
def GZ(av:Nat->Prop)(w:World)(v:Value)(ps:List (List V)):Prop:=∃h,Own w 22 1 v ps.length h 0/\ ∀i (z:i<ps.length),∃u,h[i]? =some u/\Ct av w u ps[i]
theorem GZ.grown{ps:List (List V)}(z:GZ av w v ps)(h:w.grownBy w' none):GZ av w' v ps:=by
 obtain⟨F,G,I⟩:=z;exact⟨F,Bl h G,fun i J=>by obtain⟨u,K,L⟩:=I i J;exact⟨u,K,L.grown h⟩⟩
theorem Ct.form{av:Nat->Prop}{ns:List V}(z:Ct av w v ns):∃a h,v=.slice a ns.length h/\ns.length<=h:=by
 obtain⟨I,F,_⟩:=z;obtain⟨a,h,e,G,_⟩:=F.form;exact⟨a,h,e,G⟩
theorem Ct.at_{av:Nat->Prop}{l:List V}(G:Ct av w v l)(i:Nat)(I:i<l.length):∃g h F a b r p k,v=.slice (some ⟨g,h,none⟩) l.length F/\g<w.heap.size/\Bk av w a b r p k l[i]/\
  w.cell? ⟨g,h+i*8,none⟩=some (.int .i64 l[i].kind)/\w.cell? ⟨g,h+i*8+1,none⟩=some (sv l[i].name)/\w.cell? ⟨g,h+i*8+2,none⟩=some (.bool l[i].A7)/\w.cell? ⟨g,h+i*8+3,none⟩=some a/\
  w.cell? ⟨g,h+i*8+4,none⟩=some b/\w.cell? ⟨g,h+i*8+5,none⟩=some r/\w.cell? ⟨g,h+i*8+6,none⟩=some p/\w.cell? ⟨g,h+i*8+7,none⟩=some k:=by
 obtain⟨X,J,K⟩:=G;obtain⟨g,h,F,rfl,_,_,L,M⟩:=J.some_ (by omega);obtain⟨a,b,r,p,k,e,N⟩:=K i I;have z:∀j,j<8->w.cell? ⟨g,h+i*8+j,none⟩=(AU l[i] a b r p k)[j]? :=by
  intro j O;rw[Nat.add_assoc,M _ (by omega),<-e,List.getElem?_take,Ai O,List.getElem?_drop]
 exact⟨g,h,F,a,b,r,p,k,rfl,L,N,z 0 (by omega),z 1 (by omega),z 2 (by omega),z 3 (by omega),z 4 (by omega),z 5 (by omega),z 6 (by omega),z 7 (by omega)⟩
theorem GZ.at_{ps:List (List V)}(G:GZ av w v ps)(i:Nat)(I:i<ps.length):∃g h z a c,v=.slice (some ⟨g,h,none⟩) ps.length z/\g<w.heap.size/\w.cell? ⟨g,h+i,none⟩=some (.slice a ps[i].length c)/\Ct av w (.slice a ps[i].length c) ps[i]:=by
 obtain⟨O,J,K⟩:=G;obtain⟨g,h,z,rfl,_,_,L,M⟩:=J.some_ (by omega);obtain⟨u,N,F⟩:=K i I;obtain⟨a,c,rfl,_⟩:=F.form;refine⟨g,h,z,a,c,rfl,L,?_,F⟩;have:=M i (by omega);rw[this,N]
end
structure OI(av:Nat->Prop)(w W:World)(nb:Nat)(n:V)(a b r p vk vo:Value)(out:List V)(kids:List Int):Prop where
 lo:∀k,av k->k<w.heap.size
 gr:w.grownBy W none
 low:w.heap.size<=nb
 box:Y W nb 32 (AU n a b r p vk).toArray
 kd:He W vk kids
 kn:∀g,vk.ownBlock=some g->w.heap.size<=g
 out:Ct (fun k=>vk.ownBlock=some k\/av k) W vo out
 on:∀g,vo.ownBlock=some g->w.heap.size<=g/\g≠nb
section
variable {av:Nat->Prop}{w W W' wA:World}{nb:Nat}{n:V}{a b r p vk vo vA:Value}{out:List V}{kids:List Int}
theorem OI.grown(h:OI av w W nb n a b r p vk vo out kids)(z:W.grownBy W' none):OI av w W' nb n a b r p vk vo out kids:=
 ⟨h.lo,AI h.gr z,h.low,Y.grown h.box z (by simp),Bl z h.kd,h.kn,h.out.grown z,h.on⟩
theorem N6(n:V)(a b r p k u:Value):(AU n a b r p k).toArray.setIfInBounds 7 u=(AU n a b r p u).toArray:=by simp[AU]
theorem Ct.RJ{av:Nat->Prop}{w:World}{v:Value}{ns:List V}(h:Ct av w v ns){q:Addr}(z:v.ownBlock≠some q.block)(F:Bn w q.block 32)(u:Value):Ct av (w.setCell q u) v ns:=by
 obtain⟨G,I,J⟩:=h;have K:Fr (fun _=>True) w (w.setCell q u):=(Fr.refl _ w).set trivial (.inr F) u;exact⟨G,I.Bi z u,fun i L=>by obtain⟨x,y,r,M,k,e,N⟩:=J i L;exact⟨x,y,r,M,k,e,N.fr K⟩⟩
theorem Mg{S:Nat->Prop}(F:w.grownBy W none)(o:Obj)(z:Az S (W.alloc o) wA)(G:∀k,S k->w.heap.size<=k):w.grownBy wA none:=by
 have h:=AF F o;exact⟨z.os.trans h.os,z.tape.trans h.tape,z.output.trans h.output,E0 h.size z.size,fun k hk I=>(z.block k (DZ hk h.size) (fun e=>by have:=G k e;omega)).trans (h.block k hk I)⟩
theorem OI.O9(h:OI av w W nb n a b r p vk vo out kids)(o:Obj){y:Int}(J:Own wA 3 1 vA (kids.length+1) (kids.map (Value.int .i64)++[.int .i64 y]) 0)(z:Az (fun g=>vk.ownBlock=some g) (W.alloc o) wA)(K:∀g,vA.ownBlock=some g->vk.ownBlock=some g\/(W.alloc o).heap.size<=g):
  Y wA nb 32 (AU n a b r p vk).toArray/\OI av w (wA.setCell ⟨nb,7,none⟩ vA) nb n a b r p vA vo out (kids++[y]):=by
 have N:=AF (AB W none) o;have F:=h.grown N;have L:∀k,vk.ownBlock=some k->Bn (W.alloc o) k 3:=fun k e=>Own.AO F.kd e
 have G:Y wA nb 32 (AU n a b r p vk).toArray:=Y.Bo F.box z fun e=>Aj ((L _ e).uniq F.box.AO) (by decide)
 have O:w.grownBy wA none:=Mg h.gr o z h.kn;have X:Ct (fun k=>vA.ownBlock=some k\/av k) wA vo out:=by
  have aa:=(F.out.more (S:=fun k=>(W.alloc o).heap.size<=k) (fun _ h=>h));obtain⟨ab,M,ac⟩:=aa;refine⟨ab,M.Bo z (fun g I e=>Aj ((M.AO I).uniq (L g e)) (by decide)),fun i ad=>?_⟩;obtain⟨x,y,r,ae,k,e,af⟩:=ac i ad;refine⟨x,y,r,ae,k,e,(Bk.Bo z (fun k e=> .inl (.inl e)) af).mono fun k hk=>?_⟩;rcases hk with hk|hk
  ·rcases K k hk with e|e
   ·exact .inl (.inl e)
   ·exact .inr e
  ·exact .inl (.inr hk)
 refine⟨G,⟨h.lo,Af O (p:=⟨nb,7,none⟩) h.low _,h.low,?_,?_,fun g I=>?_,?_,h.on⟩⟩
 ·have:=Y.AW G 7 vA;rw[N6]at this;exact this
 ·have ag:vA.ownBlock≠some nb:=fun e=>Aj ((J.AO e).uniq G.AO) (by decide)
  unfold He;rw[BG,Cj,FN];exact J.Bi (p:=⟨nb,7,none⟩) ag _
 ·rcases K g I with e|e
  ·exact h.kn g e
  ·rw[BW]at e;have:=h.gr.size;omega
 ·exact X.RJ (q:=⟨nb,7,none⟩) (fun e=>(h.on _ e).2 rfl) G.AO _
theorem OI.node(h:OI av w W nb n a b r p vk vo out kids){G:World}(z:W.grownBy G none){M:List Value}(aa:Own W 32 8 vo out.length M 0)(ai:∀i (h:i<out.length),∃a b r p k,(M.drop (i*8)).take 8=AU out[i] a b r p k/\Bk (fun k=>vk.ownBlock=some k\/av k) W a b r p k out[i])
  {x:V} {ab ac ad ae aj N:Value} (hx:Bk av W ab ac ad ae aj x) {O:List Int} (ak:He G N O) (al:∀g,N.ownBlock=some g->W.heap.size<=g)
  (o:Obj) (am:Own wA 32 8 vA (out.length+1) (M++AU { x with kids:=O } ab ac ad ae N) 0) (K:Az (fun g=>vo.ownBlock=some g) (G.alloc o) wA) (an:∀g,vA.ownBlock=some g->vo.ownBlock=some g\/(G.alloc o).heap.size<=g):
  OI av w wA nb n a b r p vk vA (out++[{ x with kids:=O }]) kids:=by
 have L:=AF z o;have I:=h.grown L;have af:∀k,vo.ownBlock=some k->Bn (G.alloc o) k 32:=fun k e=>Own.AO (Bl L aa) e
 have ao:Fr (fun _=>True) (G.alloc o) wA:=Az.mono K fun k _ e=>⟨trivial,.inr (af k e)⟩
 have ag:∀k,vk.ownBlock=some k->Bn (G.alloc o) k 3:=fun k e=>Own.AO I.kd e
 refine⟨h.lo,Mg (AI h.gr z) o K (fun k e=>(h.on k e).1),h.low,Y.Bo I.box K (fun e=>(h.on _ e).2 rfl),I.kd.Bo K (fun g z e=>Aj ((ag g z).uniq (af g e)) (by decide)),h.kn,?_,fun g z=>?_⟩
 ·have ap:=aa.len;refine Ct.add (w:=G.alloc o) (base:=fun _=>True) ap (fun i X=>?_) am ao ?_
  ·obtain⟨aq,ar,au,aw,ax,e,ay⟩:=ai i X;exact⟨aq,ar,au,aw,ax,e,ay.fr (base:=fun _=>False) (Fr.AL L)⟩
  ·have F:=hx.fr (base:=fun _=>False) (Fr.AL L);have J:∀ {e:TypeId} {s m k:Nat} {v:Value} {xs:List Value},Own (G.alloc o) e s v m xs k->e≠3->Av av v->Av (fun k=>vk.ownBlock=some k\/av k) v:=fun az aA aB g z hk=>hk.elim (fun hk=>aA ((az.AO z).uniq (ag g hk))) (fun hk=>aB g z hk)
   obtain⟨aC,ah,pa,aD⟩:=F.AT;refine⟨F.AZ,F.words,F.DJ,⟨aC,ah,J ah (by decide) pa,fun i X=>?_⟩,Own.alloc ak o,J F.AZ (by decide) F.ha,J F.words (by decide) F.hb,J F.DJ (by decide) F.hr,fun g z hk=>?_⟩
   ·obtain⟨u,aE,hs,aF⟩:=aD i X;exact⟨u,aE,hs,J hs (by decide) aF⟩
   ·have aI:=al g z;rcases hk with hk|hk
    ·have aG:=Own.lt h.kd hk;omega
    ·have aG:=h.lo g hk;have aH:=h.gr.size;omega
 ·rcases an g z with e|e
  ·exact h.on g e
  ·have aH:=I.gr.size;have aJ:=Y.lt I.box;omega
end
theorem Jt{α:Type}{l:List α}{i:Nat}(h:i<l.length):l.take (i+1)=l.take i++[l[i]]:=Du h
end
end Go.Proofs.YtdhfhphbkfgamaaGreat
