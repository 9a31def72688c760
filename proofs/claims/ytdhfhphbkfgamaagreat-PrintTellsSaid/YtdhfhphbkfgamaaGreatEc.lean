/- PrintTells: a part of its proof. -/
import Derived.Test.YtdhfhphbkfgamaaGreatEa
import Derived.Test.YtdhfhphbkfgamaaGreatPj
set_option maxRecDepth 100000
set_option maxHeartbeats 64000000
namespace Go.Proofs.YtdhfhphbkfgamaaGreat
section
open Go.RowKit Lx
theorem Bq {a b:Bool} (h:a=b):Ending.returned (.bool a)=.returned (.bool b):=by rw[h]
theorem Mq {a b:Int} (h:a=b):Ending.returned (.int .i64 a)=.returned (.int .i64 b):=by rw[h]
structure Tg (T:List AX):Prop where
 Aj:Good T
 wl:Wl T
 Kx: ∀t∈T,NY t
 len:T.length≤500
structure Gl (w:World) (rb:Nat) (T:List AX) (vt:Value) (a:Nat) (d e f:Int):Prop where
 BD:Y w rb 86 #[vt,.int .i64 a,.int .i64 d,.int .i64 e,.int .i64 f]
 tok:Own w 69 3 vt T.length (JK T) 0
 lt:a<T.length
 tg:Tg T
 old: ∀g,vt.ownBlock=some g→g<rb
inductive DS
 |ok (ts:List AX) (d:Nat)
 |er (a e:Int)
def BS (w:World) (rb:Nat) (T:List AX):DS→Prop
 | .ok ts d=> ∃vt a f,Gl w rb T vt a d 0 f∧T.drop a=ts∧d≤26
 | .er a e=> ∃vt i d,Gl w rb T vt i d e a∧e≠0
section
variable {w w':World} {rb a:Nat} {T:List AX} {vt:Value} {d e f:Int} {s:DS}
theorem Gl.grown (h:Gl w rb T vt a d e f) (z:w.grownBy w' none):Gl w' rb T vt a d e f:=⟨Y.grown h.BD z (by simp),Bh z h.tok,h.lt,h.tg,h.old⟩
theorem BS.grown (h:BS w rb T s) (F:w.grownBy w' none):BS w' rb T s:=by
 cases s with
 |ok ts d=>
  obtain⟨vt,a,f,h,z⟩:=h;exact⟨vt,a,f,h.grown F,z⟩
 |er x k=>
  obtain⟨vt,i,d,h,z⟩:=h;exact⟨vt,i,d,h.grown F,z⟩
theorem Gl.cells (h:Gl w rb T vt a d e f):w.cell? ⟨rb,0,none⟩=some vt∧w.cell? ⟨rb,1,none⟩=some (.int .i64 a)∧w.cell? ⟨rb,2,none⟩=some (.int .i64 d)∧w.cell? ⟨rb,3,none⟩=some (.int .i64 e)∧w.cell? ⟨rb,4,none⟩=some (.int .i64 f):=⟨Y.cell h.BD 0,Y.cell h.BD 1,Y.cell h.BD 2,Y.cell h.BD 3,Y.cell h.BD 4⟩
theorem NJ {w:World} {v:Value} {T:List AX} (I:Own w 69 3 v T.length (JK T) 0) (J:0<T.length): ∃g h z,v=.slice (some ⟨g,h,none⟩) T.length z∧T.length≤z∧g<w.heap.size∧ ∀i (F:i<T.length),w.cell? ⟨g,h+i*3,none⟩=some (.int .i64 (T[i]).k)∧w.cell? ⟨g,h+i*3+1,none⟩=some (.string ⟨(T[i]).t.toArray⟩)∧w.cell? ⟨g,h+i*3+2,none⟩=some (.int .i64 (T[i]).a):=by
 obtain⟨g,h,z,rfl,K,_,L,G⟩:=I.some_ J;refine⟨g,h,z,rfl,K,L,fun i F=>⟨?_,?_,?_⟩⟩
 ·have:=G (i*3) (by omega);rw[this,show i*3=i*3+0 from rfl,IM T i 0 F (by omega)];rfl
 ·have:=G (i*3+1) (by omega);rw[Nat.add_assoc,this,IM T i 1 F (by omega)];rfl
 ·have:=G (i*3+2) (by omega);rw[Nat.add_assoc,this,IM T i 2 F (by omega)];rfl
theorem Gl.DY (z:Gl w rb T vt a d e f): ∃g h F t r,vt=.slice (some ⟨g,h,none⟩) T.length F∧T.length≤F∧g<w.heap.size∧T.drop a=t::r∧w.cell? ⟨g,h+a*3,none⟩=some (.int .i64 t.k)∧w.cell? ⟨g,h+a*3+1,none⟩=some (.string ⟨t.t.toArray⟩)∧w.cell? ⟨g,h+a*3+2,none⟩=some (.int .i64 t.a):=by
 obtain⟨g,h,F,e,G,I,J⟩:=NJ z.tok (Nat.lt_of_le_of_lt (DM _) z.lt);exact⟨g,h,F,_,_,e,G,I,List.drop_eq_getElem_cons z.lt,J a z.lt⟩
theorem Gl.lb (h:Gl w rb T vt a d e f):rb<w.heap.size:=Y.lt h.BD
theorem Gl.fresh {B:Nat} (h:Gl w rb T vt a d e f) (z:rb<B) (j:Nat) (u:Value):Gl (w.setCell ⟨B,j,none⟩ u) rb T vt a d e f:=by
 refine⟨Y.Be h.BD (p:=⟨B,j,none⟩) (show rb≠B by omega) _,h.tok.Be (p:=⟨B,j,none⟩) (fun e=>?_) _,h.lt,h.tg,h.old⟩;have:=h.old _ e;simp only[]at this;omega
theorem BS.fresh {B:Nat} (h:BS w rb T s) (F:rb<B) (j:Nat) (u:Value):BS (w.setCell ⟨B,j,none⟩ u) rb T s:=by
 cases s with
 |ok ts d=>
  obtain⟨vt,a,f,h,z⟩:=h;exact⟨vt,a,f,h.fresh F j u,z⟩
 |er x k=>
  obtain⟨vt,i,d,h,z⟩:=h;exact⟨vt,i,d,h.fresh F j u,z⟩
theorem BS.lb (h:BS w rb T s):rb<w.heap.size:=by
 cases s with
 |ok ts d=>obtain⟨vt,a,f,h,_⟩:=h;exact h.lb
 |er x k=>obtain⟨vt,i,d,h,_⟩:=h;exact h.lb
theorem Ld {T:List AX} (z:Good T): ∀a,a<T.length→Good (T.drop a)∧ ∀i (F:i<T.length),i<a→T[i].k≠4:=by
 intro a G;obtain⟨p,e,rfl,I,h⟩:=z;rw[BE,Cd]at G;refine⟨⟨p.drop a,e,by rw[List.drop_append_of_le_length (by omega)],I,fun t J=>h t (List.mem_of_mem_drop J)⟩,fun i F K=>?_⟩;rw[List.getElem_append_left (by omega)];exact h _ (List.getElem_mem _)
theorem BS.Aj {ts:List AX} {d:Nat} (h:BS w rb T (.ok ts d)):Good ts∧Wl ts∧(∀t∈ts,NY t)∧ts.length≤500∧d≤26:=by
 obtain⟨vt,a,f,h,rfl,z⟩:=h;exact⟨(Ld h.tg.Aj a h.lt).1,h.tg.wl.drop a,fun t F=>h.tg.Kx t (List.mem_of_mem_drop F),by rw[Dq];have:=h.tg.len;omega,z⟩
theorem Gl.step {t:AX} {r:List AX} (h:Gl w rb T vt a d e f) (z:T.drop a=t::r) (hk:t.k≠4):Gl (w.setCell ⟨rb,1,none⟩ (.int .i64 ((a+1:Nat):Int))) rb T vt (a+1) d e f∧T.drop (a+1)=r:=by
 have F:T.drop (a+1)=r:=(by rw[←List.drop_drop,z];rfl);refine⟨⟨Y.AV h.BD 1 _,h.tok.Be (p:=⟨rb,1,none⟩) (fun e=>?_) _,?_,h.tg,h.old⟩,F⟩
 ·have:=(h.tok.AN e).uniq h.BD.AN;exact Ai this (by decide)
 ·have G:=(Ld h.tg.Aj a h.lt).1;rw[z]at G;have:=(G.tail hk).pos;rw[←F,Dq]at this;omega
theorem Gl.set (h:Gl w rb T vt a d e f) (j:Nat) (z:j=2∨j=3∨j=4) (x:Int):Gl (w.setCell ⟨rb,j,none⟩ (.int .i64 x)) rb T vt a (if j=2 then x else d) (if j=3 then x else e) (if j=4 then x else f):=by
 refine⟨?_,h.tok.Be (p:=⟨rb,j,none⟩) (fun e=>?_) _,h.lt,h.tg,h.old⟩
 ·have:=Y.AV h.BD j (.int .i64 x);rcases z with rfl|rfl|rfl<;>exact this
 ·have:=(h.tok.AN e).uniq h.BD.AN;exact Ai this (by decide)
end
def Ix:DS→List UInt8→Bool
 | .ok ts _,s=>Dn ts s
 | .er _ _,_=>false
def Kz:DS→List UInt8→Bool
 | .ok ts _,s=>Fl ts s
 | .er _ _,_=>false
def Qb (b:Bool) (w:World) (e:Ending) (w':World):Prop:=e=.returned (.bool b)∧w.grownBy w' none
theorem Z03 {P:Prop} (h:P:=by
 go_wp2_with fail;go_quiet (fail);go_wp2_with fail;go_ret;exact⟨Bq (a:=false) (by rw[K.out];simp only[af.out,Bool.false_and]),As (AB w none) nq⟩):P:=h
theorem Z04 {P:Prop} (h:P:=by
 go_wp2_with fail;go_quiet (fail);go_wp2_with fail;go_ret;exact⟨Bq (a:=ae==s) (by rw[K.out];simp),As (AB w none) nq⟩):P:=h
theorem Z05 {P:Prop} (h:P:=by
 go_wp2_with fail;go_quiet (fail);go_wp2_with fail;go_ret;exact⟨rfl,As (AB w none) nq⟩):P:=h
theorem Ey (rb:Nat) (T:List AX) (z:DS) (s:List UInt8) (w:World) (h:BS w rb T z):Calls Tryz.prog 69 #[.pointer (some ⟨rb,0,none⟩),sv s] w (Qb (Ix z s) w):=by
 cases z with
 |er x k=>
  obtain⟨vt,i,d,h,hk⟩:=h;obtain⟨G,N,O,c3,c4⟩:=h.cells;have lb:=h.lb;have q:(k==0)=false:=Ba hk;unfold sv Qb Ix;clear h;go_enter Tryz.func69,Tryz.ntmps69;exact Z05
 |ok ts d=>
  obtain⟨vt,a,f,h,I,_⟩:=h;obtain⟨G,N,O,c3,c4⟩:=h.cells;obtain⟨g,ag,ah,t,r,rfl,W,ai,J,X,aa,ab⟩:=h.DY;have lb:=h.lb;have ac:=h.lt;have ad:(0:Int)≤(a:Int)∧(a:Int)<((T.length:Nat):Int):=(by omega);have hs:Ix (.ok ts d) s=(t.k==2&&t.t==s):=(by rw[←I,J];rfl);have K:=Z hs;obtain⟨L,M⟩: ∃L,T.length=L:=⟨_,rfl⟩;rw[M]at G ad W;clear h ac I J hs M;obtain⟨F,ae,aj⟩:=t;simp only[]at X aa ab;unfold sv Qb;by_cases hk:F=2
  ·subst hk;go_enter Tryz.func69,Tryz.ntmps69;exact Z04
  ·have q:((F:Int)==2)=false:=(by rw[beq_eq_false_iff_ne];omega);have af:=Z (show(F==2)=false by rw[beq_eq_false_iff_ne];exact hk);go_enter Tryz.func69,Tryz.ntmps69;exact Z03
theorem GL (rb:Nat) (T:List AX) (z:DS) (s:List UInt8) (w:World) (h:BS w rb T z):Calls Tryz.prog 100 #[.pointer (some ⟨rb,0,none⟩),sv s] w (Qb (Kz z s) w):=by
 cases z with
 |er x k=>
  obtain⟨vt,i,d,h,hk⟩:=h;obtain⟨G,N,O,c3,c4⟩:=h.cells;have lb:=h.lb;have q:(k==0)=false:=Ba hk;unfold sv Qb Kz;clear h;go_enter Tryz.func100,Tryz.ntmps100;exact Z05
 |ok ts d=>
  obtain⟨vt,a,f,h,I,_⟩:=h;obtain⟨G,N,O,c3,c4⟩:=h.cells;obtain⟨g,ag,ah,t,r,rfl,W,ai,J,X,aa,ab⟩:=h.DY;have lb:=h.lb;have ac:=h.lt;have ad:(0:Int)≤(a:Int)∧(a:Int)<((T.length:Nat):Int):=(by omega);have hs:Kz (.ok ts d) s=(t.k==1&&t.t==s):=(by rw[←I,J];rfl);have K:=Z hs;obtain⟨L,M⟩: ∃L,T.length=L:=⟨_,rfl⟩;rw[M]at G ad W;clear h ac I J hs M;obtain⟨F,ae,aj⟩:=t;simp only[]at X aa ab;unfold sv Qb;by_cases hk:F=1
  ·subst hk;go_enter Tryz.func100,Tryz.ntmps100;exact Z04
  ·have q:((F:Int)==1)=false:=(by rw[beq_eq_false_iff_ne];omega);have af:=Z (show(F==1)=false by rw[beq_eq_false_iff_ne];exact hk);go_enter Tryz.func100,Tryz.ntmps100;exact Z03
def Xg:Ending:=.returned (.tuple #[])
def NO (x k:Int):DS→DS
 | .ok _ _=> .er x k
 | .er a e=> .er a e
def Qu (rb:Nat) (T:List AX) (h:DS) (w:World) (e:Ending) (w':World):Prop:=e=.returned (.tuple #[])∧BS w' rb T h∧w.grownBy w' (some rb)
theorem Lk (rb:Nat) (T:List AX) (z:DS) (x k:Int) (F:k≠0) (w:World) (h:BS w rb T z):Calls Tryz.prog 73 #[.pointer (some ⟨rb,0,none⟩),.int .i64 x,.int .i64 k] w (Qu rb T (NO x k z) w):=by
 cases z with
 |er a e=>
  have G:=Z h;obtain⟨vt,i,d,h,hk⟩:=h;obtain⟨I,J,K,c3,c4⟩:=h.cells;have lb:=h.lb;have q:(e==0)=false:=Ba hk;unfold Qu NO;clear h;go_enter Tryz.func73,Tryz.ntmps73;go_wp2_with fail;refine bodyPost_end (results_none rfl _ _ _) rfl ⟨rfl,G.out,AB w _⟩
 |ok ts d=>
  obtain⟨vt,a,f,h,L,_⟩:=h;obtain⟨I,J,K,c3,c4⟩:=h.cells;have lb:=h.lb;have z3:=Y.frozen h.BD 3;have O:=Y.frozen h.BD 4;have M:=Z ((h.set 3 (.inr (.inl rfl)) k).set 4 (.inr (.inr rfl)) x);have N:=Z F;unfold Qu NO;clear h L F;go_enter Tryz.func73,Tryz.ntmps73;go_wp2_with fail;refine bodyPost_end (results_none rfl _ _ _) rfl ⟨rfl,⟨vt,a,_,M.out,N.out⟩,?_⟩;exact AM (AM (AB w (some rb)) (p:=⟨rb,3,none⟩) (.inl rfl) _) (p:=⟨rb,4,none⟩) (.inl rfl) _
end
section
open Go.RowKit Lx
theorem Z06 {P:Prop} (h:P:=by
 go_enter Tryz.func91,Tryz.ntmps91;go_wp2_with fail;go_ret;exact⟨Bq (a:=true) (by decide),AB w none⟩):P:=h
theorem Ih (s:List UInt8) (w:World):Calls Tryz.prog 91 #[sv s] w (Qb (DW s) w):=by
 unfold sv Qb;by_cases h:s=[33]
 ·subst h;exact Z06
 have ae:(s==[33])=false:=Ba h;by_cases z:s=[123]
 ·subst z;exact Z06
 have af:(s==[123])=false:=Ba z;by_cases F:s=[125]
 ·subst F;exact Z06
 have ag:(s==[125])=false:=Ba F;by_cases G:s=[99,97,115,101]
 ·subst G;exact Z06
 have ah:(s==[99,97,115,101])=false:=Ba G;by_cases I:s=[100,111]
 ·subst I;exact Z06
 have ai:(s==[100,111])=false:=Ba I;by_cases J:s=[100,111,110,101]
 ·subst J;exact Z06
 have aj:(s==[100,111,110,101])=false:=Ba J;by_cases K:s=[101,108,105,102]
 ·subst K;exact Z06
 have ak:(s==[101,108,105,102])=false:=Ba K;by_cases L:s=[101,108,115,101]
 ·subst L;exact Z06
 have al:(s==[101,108,115,101])=false:=Ba L;by_cases M:s=[101,115,97,99]
 ·subst M;exact Z06
 have am:(s==[101,115,97,99])=false:=Ba M;by_cases N:s=[102,105]
 ·subst N;exact Z06
 have an:(s==[102,105])=false:=Ba N;by_cases O:s=[102,111,114]
 ·subst O;exact Z06
 have ao:(s==[102,111,114])=false:=Ba O;by_cases W:s=[105,102]
 ·subst W;exact Z06
 have ap:(s==[105,102])=false:=Ba W;by_cases X:s=[105,110]
 ·subst X;exact Z06
 have aq:(s==[105,110])=false:=Ba X;by_cases aa:s=[116,104,101,110]
 ·subst aa;exact Z06
 have ar:(s==[116,104,101,110])=false:=Ba aa;by_cases ab:s=[117,110,116,105,108]
 ·subst ab;exact Z06
 have au:(s==[117,110,116,105,108])=false:=Ba ab;by_cases ac:s=[119,104,105,108,101]
 ·subst ac;exact Z06
 have aw:(s==[119,104,105,108,101])=false:=Ba ac;have ad:DW s=false:=by
  unfold DW LD;simp only[List.contains_cons,List.contains_nil,Bool.or_false];simp only[DQ,F2,Cv,Fy,EA,BU,FN,FC,C7,Gr,I5,Oz,FZ,E8,DX,Dp,ae,af,ag,ah,ai,aj,ak,al,am,an,ao,ap,aq,ar,au,aw,Bool.or_false]
 have ax:=Z ad;clear ad;go_enter Tryz.func91,Tryz.ntmps91;go_wp2_with fail;go_ret;exact⟨Bq (a:=false) (by rw[ax.out]),AB w none⟩
def N6 (s:List UInt8):Bool:=Fv.contains s
theorem Z07 {P:Prop} (h:P:=by
 go_wp2_with fail;go_ret;exact⟨Bq (a:=true) (by decide),AB w none⟩):P:=h
theorem Hq (s:List UInt8) (w:World):Calls Tryz.prog 90 #[sv s] w (Qb (N6 s) w):=by
 unfold sv Qb;by_cases h:s=[60]
 ·subst h;go_enter Tryz.func90,Tryz.ntmps90;exact Z07
 have M:(s==[60])=false:=Ba h;by_cases z:s=[62]
 ·subst z;go_enter Tryz.func90,Tryz.ntmps90;exact Z07
 have N:(s==[62])=false:=Ba z;by_cases F:s=[62,62]
 ·subst F;go_enter Tryz.func90,Tryz.ntmps90;exact Z07
 have O:(s==[62,62])=false:=Ba F;by_cases G:s=[60,38]
 ·subst G;go_enter Tryz.func90,Tryz.ntmps90;exact Z07
 have W:(s==[60,38])=false:=Ba G;by_cases I:s=[62,38]
 ·subst I;go_enter Tryz.func90,Tryz.ntmps90;exact Z07
 have X:(s==[62,38])=false:=Ba I;by_cases J:s=[60,62]
 ·subst J;go_enter Tryz.func90,Tryz.ntmps90;exact Z07
 have aa:(s==[60,62])=false:=Ba J;by_cases K:s=[62,124]
 ·subst K;go_enter Tryz.func90,Tryz.ntmps90;exact Z07
 have ab:(s==[62,124])=false:=Ba K;have L:N6 s=false:=by
  unfold N6 Fv;simp only[List.contains_cons,List.contains_nil,Bool.or_false];simp only[M,N,O,W,X,aa,ab,Bool.or_false]
 have ac:=Z L;clear L;go_enter Tryz.func90,Tryz.ntmps90;go_wp2_with fail;go_ret;exact⟨Bq (a:=false) (by rw[ac.out]),AB w none⟩
theorem X0 {f:Bool} {c:UInt8} {r:List UInt8} (h:(Ep c||(!f&&GF c))=true):FY f (c::r)=FY false r+1:=by
 show(if _ then _ else _)=_;rw[Ah h]
theorem X7 {f:Bool} {c:UInt8} {r:List UInt8} (h: ¬(Ep c||(!f&&GF c))=true):FY f (c::r)=0:=by
 show(if _ then _ else _)=_;rw[U h]
theorem Z08 {P:Prop} (h:P:=by
 have W:decide ((65:Int)≤(c.toNat:Int))=true:=At (by omega);have ac:decide ((c.toNat:Int)≤90)=false:=Aq (by omega);have ad:((c.toNat:Int)==95)=false:=(by rw[beq_eq_false_iff_ne];omega);have h:Ep c=false:=(by unfold Ep;simp only[Bool.or_eq_false_iff,decide_eq_false_iff_not];omega);by_cases I:k=0
 ·subst I;have N:(((0:Nat):Int)==0)=true:=rfl;have z:=Z (J.out (by rw[h];simp));clear h;go_wp2_with fail;go_ret;exact⟨Mq (by have:=z.out;omega),rfl⟩
 ·have N:((k:Int)==0)=false:=(by rw[beq_eq_false_iff_ne];omega);have F:decide (k=0)=false:=Aq I;have X:decide ((c.toNat:Int)<48)=false:=Aq (by omega);have ae:decide ((57:Int)<(c.toNat:Int))=true:=At (by omega);have z:=Z (J.out (by rw[h,F,show GF c=false from Aq (by omega)];simp));clear h F;go_wp2_with fail;go_ret;exact⟨Mq (by have:=z.out;omega),rfl⟩):P:=h
theorem Z09 {P:Prop} (h:P:=by
 have K:=Z (O.out (by rw[show Ep c=true by unfold Ep;simp only[Bool.or_eq_true,decide_eq_true_eq];omega];rfl));go_wp2_with fail;go_roundg (gk-1);case rel=>exact⟨k+1,by go_num,by omega,by have:=G.out;omega,K.out,rfl⟩
 case measure=>have:=G.out;omega):P:=h
theorem Z0a {P:Prop} (h:P:=by
 have z:=Z (J.out (by rw[h,F,show GF c=false from Aq (by omega)];simp));clear h F;go_wp2_with fail;go_ret;exact⟨Mq (by have:=z.out;omega),rfl⟩):P:=h
theorem Z0b {P:Prop} (h:P:=by
 go_wp2_with fail;go_ret;exact⟨Mq (by have:=z.out;omega),rfl⟩):P:=h
theorem JN (s:List UInt8) (w:World) (hs:s.length≤9223372036854775807):Calls Tryz.prog 116 #[sv s] w fun e w'=>e=.returned (.int .i64 (GU s))∧w'=w:=by
 have an:=sz s;unfold sv GU;go_enter Tryz.func116,Tryz.ntmps116;go_wp2_with fail;go_loopg [3,4] s.length (fun g aj ao wr=> ∃k:Nat,aj=.int .i64 k∧k≤s.length∧s.length-k≤g∧FY true s=k+FY (decide (k=0)) (s.drop k)∧wr=w);case atStart=>exact⟨0,rfl,DM _,BL _,by simp,rfl⟩
 case round=>
  obtain⟨k,rfl,hk,af,L,rfl⟩:=hrel;have G:=Z af;clear af;by_cases ag:k<s.length
  ·have ak:decide ((k:Int)<(s.length:Int))=true:=At (by omega);have al:=BC s k ag;have ap:(0:Int)≤k∧(k:Int)<(s.length:Int):=(by omega);have aa:=CC ag;obtain⟨c,ah⟩: ∃c,s[k]=c:=⟨_,rfl⟩;rw[ah]at al aa;rw[aa]at L;have O:=Z (fun ab:(Ep c||(!decide (k=0)&&GF c))=true=>(show FY true s=(k+1)+FY (decide (k+1=0)) (s.drop (k+1)) by
    rw[L,X0 ab,show decide (k+1=0)=false from rfl];omega))
   have J:=Z (fun ab: ¬(Ep c||(!decide (k=0)&&GF c))=true=>(show FY true s=k by
    rw[X7 ab]at L;omega))
   clear ah aa L;by_cases aq:97≤c.toNat∧c.toNat≤122
   ·have M:decide ((97:Int)≤(c.toNat:Int))=true:=At (by omega);have am:decide ((c.toNat:Int)≤122)=true:=At (by omega);exact Z09
   ·skip
    by_cases ar:65≤c.toNat∧c.toNat≤90
    ·have M:decide ((97:Int)≤(c.toNat:Int))=false:=Aq (by omega);have W:decide ((65:Int)≤(c.toNat:Int))=true:=At (by omega);have ac:decide ((c.toNat:Int)≤90)=true:=At (by omega);exact Z09
    ·skip
     by_cases au:c.toNat=95
     ·have M:decide ((97:Int)≤(c.toNat:Int))=false:=Aq (by omega);have W:decide ((65:Int)≤(c.toNat:Int))=true:=At (by omega);have ac:decide ((c.toNat:Int)≤90)=false:=Aq (by omega);have ad:((c.toNat:Int)==95)=true:=(by rw[beq_iff_eq];omega);exact Z09
     ·skip
      by_cases z3:122<c.toNat
      ·have M:decide ((97:Int)≤(c.toNat:Int))=true:=At (by omega);have am:decide ((c.toNat:Int)≤122)=false:=Aq (by omega);exact Z08
      ·skip
       by_cases aw:90<c.toNat
       ·have M:decide ((97:Int)≤(c.toNat:Int))=false:=Aq (by omega);exact Z08
       ·skip
        have M:decide ((97:Int)≤(c.toNat:Int))=false:=Aq (by omega);have W:decide ((65:Int)≤(c.toNat:Int))=false:=Aq (by omega);have ad:((c.toNat:Int)==95)=false:=(by rw[beq_eq_false_iff_ne];omega);have h:Ep c=false:=(by unfold Ep;simp only[Bool.or_eq_false_iff,decide_eq_false_iff_not];omega);by_cases I:k=0
        ·subst I;have N:(((0:Nat):Int)==0)=true:=rfl;have z:=Z (J.out (by rw[h];simp));clear h;exact Z0b
        ·have N:((k:Int)==0)=false:=(by rw[beq_eq_false_iff_ne];omega);have F:decide (k=0)=false:=Aq I;by_cases ax:c.toNat<48
         ·have X:decide ((c.toNat:Int)<48)=true:=At (by omega);exact Z0a
         ·by_cases ay:57<c.toNat
          ·have X:decide ((c.toNat:Int)<48)=false:=Aq (by omega);have ae:decide ((57:Int)<(c.toNat:Int))=true:=At (by omega);exact Z0a
          ·have X:decide ((c.toNat:Int)<48)=false:=Aq (by omega);have ae:decide ((57:Int)<(c.toNat:Int))=false:=Aq (by omega);have K:=Z (O.out (by rw[h,F,show GF c=true from At (by omega)];rfl));clear h F;go_wp2_with fail;go_roundg (gk-1);case rel=>exact⟨k+1,by go_num,by omega,by have:=G.out;omega,K.out,rfl⟩
           case measure=>have:=G.out;omega
  ·obtain rfl:k=s.length:=by omega
   have ak:decide ((s.length:Int)<(s.length:Int))=false:=Aq (by omega);have ai:FY true s=s.length:=(by rw[L,List.drop_eq_nil_of_le (BL _)];show s.length+0=_;omega);clear L;have z:=Z ai;clear ai;exact Z0b
theorem Z0c {P:Prop} (h:P:=by
 go_enter Tryz.func128,Tryz.ntmps128;go_wp2_with fail;refine(F.out _).mono ?_;rintro e J ⟨rfl,rfl⟩;go_wp2_with fail;go_ret;exact⟨Bq (a:=false) z.out.symm,AB _ none⟩):P:=h
theorem Qn (s:List UInt8) (w:World) (hs:s.length≤9223372036854775807):Calls Tryz.prog 128 #[sv s] w (Qb (Fj s) w):=by
 have ab:=sz s;have F:=Z (fun M=>JN s M hs);have h:=Z (show Fj s=(decide (0<GU s)&&decide (GU s<s.length)&&(s.getD (GU s) 0==61))from rfl);obtain⟨k,hk⟩: ∃k,GU s=k:=⟨_,rfl⟩;rw[hk]at F h;unfold sv at F⊢;unfold Qb;clear hk;by_cases N:0<k
 ·have O:decide ((0:Int)<(k:Int))=true:=At (by omega);by_cases I:k<s.length
  ·have W:decide ((k:Int)<(s.length:Int))=true:=At (by omega);have X:=BC s k I;have ac:(0:Int)≤k∧(k:Int)<(s.length:Int):=(by omega);have K:s.getD k 0=s[k]:=(by rw[List.getD_eq_getElem?_getD,List.getElem?_eq_getElem I];rfl);rw[K,At N,At I]at h;obtain⟨c,L⟩: ∃c,s[k]=c:=⟨_,rfl⟩;rw[L]at X h;clear L K;by_cases G:c=61
   ·have aa:((c.toNat:Int)==61)=true:=(by rw[G];rfl);have z:=Z (show Fj s=true by rw[h.out,G];rfl);clear G;go_enter Tryz.func128,Tryz.ntmps128;go_wp2_with fail;refine(F.out _).mono ?_;rintro e J ⟨rfl,rfl⟩;go_wp2_with fail;go_ret;exact⟨Bq (a:=true) z.out.symm,AB _ none⟩
   ·have aa:((c.toNat:Int)==61)=false:=by
     rw[beq_eq_false_iff_ne];intro e;exact G (UInt8.toNat_inj.1 (show c.toNat=(61:UInt8).toNat by rw[show(61:UInt8).toNat=61 from rfl];omega))
    have z:=Z (show Fj s=false by rw[h.out,Ba G];rfl);clear G;exact Z0c
  ·have W:decide ((k:Int)<(s.length:Int))=false:=Aq (by omega);have z:=Z (show Fj s=false by rw[h.out,Aq I];simp);exact Z0c
 ·obtain rfl:k=0:=by omega
  have O:decide ((0:Int)<((0:Nat):Int))=false:=rfl;have z:=Z (show Fj s=false by rw[h.out];rfl);exact Z0c
end
section
open Go.RowKit Lx
def Ev:DS→DS
 | .ok (t::r) d=> .er t.a (if t.k=4 then 23 else 17)
 | .ok [] d=> .ok [] d
 | .er a e=> .er a e
theorem BS.wr {w:World} {rb:Nat} {T:List AX} {F:DS} (h:BS w rb T F): ∃z a d e f,Gl w rb T z a d e f∧ ∀t r,T.drop a=t::r→Ev F=NO t.a (if t.k=4 then 23 else 17) F:=by
 cases F with
 |ok ts d=>
  obtain⟨z,a,f,h,G,_⟩:=h;exact⟨z,a,d,0,f,h,fun t r e=>by rw[←G,e];rfl⟩
 |er x k=>
  obtain⟨z,i,d,h,_⟩:=h;exact⟨z,i,d,_,_,h,fun t r _=>rfl⟩
theorem EE (rb:Nat) (T:List AX) (J:DS) (w:World) (z:BS w rb T J):Calls Tryz.prog 49 #[.pointer (some ⟨rb,0,none⟩)] w (Qu rb T (Ev J) w):=by
 have O:=Z (fun x k h (hk:k≠0) (am:w.grownBy h none)=>Lk rb T J x k hk h (z.grown am));obtain⟨aw,a,d,e,f,z,ac⟩:=z.wr;obtain⟨ad,an,ax,c3,c4⟩:=z.cells;obtain⟨g,F,ae,t,r,rfl,ao,K,af,ag,ah,ai⟩:=z.DY;have lb:=z.lb;have ap:=z.lt;have aq:(0:Int)≤(a:Int)∧(a:Int)<((T.length:Nat):Int):=(by omega);have aj:=z.tg.len;obtain⟨L,ak⟩: ∃L,T.length=L:=⟨_,rfl⟩;rw[ak]at ad aq ao aj;have M:=Z (ac t r af);clear z ap af ak ac aj;obtain⟨G,W,X⟩:=t;simp only[]at ag ah ai M;obtain⟨R,al⟩: ∃R,Ev J=R:=⟨_,rfl⟩;rw[al]at M⊢;clear al;unfold Qu at O⊢;go_enter Tryz.func49,Tryz.ntmps49;go_upto_region 0 with(fail);have ar:Hid (∀h:World,w.grownBy h none→(h.cell? ⟨rb,0,none⟩=some (.slice (some ⟨g,F,none⟩) L ae)∧h.cell? ⟨rb,1,none⟩=some (.int .i64 a)∧h.cell? ⟨g,F+a*3,none⟩=some (.int .i64 G)∧h.cell? ⟨g,F+a*3+1,none⟩=some (.string ⟨W.toArray⟩)∧h.cell? ⟨g,F+a*3+2,none⟩=some (.int .i64 X))):=
  Z (fun h I=>⟨AH I lb ad,AH I lb an,AH I K ag,AH I K ah,AH I K ai⟩)
 go_region_held3 (fun h=>h.cell? ⟨rb,0,none⟩=some (.slice (some ⟨g,F,none⟩) L ae)∧h.cell? ⟨rb,1,none⟩=some (.int .i64 a)∧h.cell? ⟨g,F+a*3,none⟩=some (.int .i64 G)∧h.cell? ⟨g,F+a*3+1,none⟩=some (.string ⟨W.toArray⟩)∧h.cell? ⟨g,F+a*3+2,none⟩=some (.int .i64 X))
  (first|go_keep|exact ar.out _ (by repeat' (first|(with_reducible exact AB _ _)|(with_reducible refine Af ?_ ?_ _)|(with_reducible refine AI ?_ K)|(with_reducible refine Ag ?_)|(with_reducible refine AF ?_ _)|omega|(simp;done))))
  (fail)
 have N:=Ag (AF (AB w none) (.cells #[.int .i64 G,.string ⟨W.toArray⟩,.int .i64 X] 69));by_cases hk:G=4
 ·subst hk;go_wp2_with fail;refine(O.out _ _ _ (by decide) N).mono ?_;rintro e au ⟨rfl,aa,ab⟩;go_wp2_with fail;refine bodyPost_end (results_none rfl _ _ _) rfl ⟨rfl,by rw[M.out];simpa using aa,AJ (CV N _) ab⟩
 ·have q:((G:Int)==4)=false:=(by rw[beq_eq_false_iff_ne];omega);go_wp2_with fail;refine(O.out _ _ _ (by decide) N).mono ?_;rintro e au ⟨rfl,aa,ab⟩;go_wp2_with fail;refine bodyPost_end (results_none rfl _ _ _) rfl ⟨rfl,by rw[M.out];simpa [hk]using aa,AJ (CV N _) ab⟩
def CG (s:List UInt8):DS→DS
 | .ok ts d=>if BR ts s=true then .ok ts.tail d else Ev (.ok ts d)
 | .er a e=> .er a e
theorem Bp {a b:World} {rb:Nat} (h:a.grownBy b none):a.grownBy b (some rb):=CV h _
theorem BS.next {w:World} {rb:Nat} {T:List AX} {ts:List AX} {d:Nat} {h:Value} {a:Nat} {f:Int} (z:Gl w rb T h a d 0 f) (F:T.drop a=ts) (G:d≤26) {t:AX} {r:List AX} (I:ts=t::r) (hk:t.k≠4):BS (w.setCell ⟨rb,1,none⟩ (.int .i64 ((a:Int)+1))) rb T (.ok r d):=by
 obtain⟨J,K⟩:=z.step (F.trans I) hk;exact⟨h,a+1,f,J,K,G⟩
theorem Z0e {P:Prop} (h:P:=by
 go_wp2_with fail;refine bodyPost_end (results_none rfl _ _ _) rfl ⟨rfl,by rw[al.out];exact ak.out,AM (Bp X.out) (p:=⟨rb,1,none⟩) (.inl rfl) _⟩):P:=h
theorem GJ (rb:Nat) (T:List AX) (h:DS) (s:List UInt8) (w:World) (z:BS w rb T h):Calls Tryz.prog 118 #[.pointer (some ⟨rb,0,none⟩),sv s] w (Qu rb T (CG s h) w):=by
 have N:=Z (fun F (K:BS F rb T h)=>Ey rb T h s F K);have O:=Z (fun F (K:BS F rb T h)=>GL rb T h s F K);have ai:=Z (fun F (K:BS F rb T h)=>EE rb T h F K);have W:=Z z;unfold Qb sv at N O;unfold Qu at ai⊢;unfold sv;obtain⟨x,hx⟩: ∃x,Ix h s=x:=⟨_,rfl⟩;obtain⟨y,hy⟩: ∃y,Kz h s=y:=⟨_,rfl⟩;have J:=Z (A8 hx hy);rw[hx]at N;rw[hy]at O;clear z hx hy;by_cases L:x=false∧y=false
 ·obtain⟨rfl,rfl⟩:=L;have ac:=Z (show CG s h=Ev h by
   cases h with
   |er a e=>rfl
   |ok ts d=>
    have am:Dn ts s=false:=J.out.1;have an:Fl ts s=false:=J.out.2;show(if BR ts s=true then _ else _)=_;unfold BR;rw[am,an];rfl)
  rw[ac.out];go_enter Tryz.func118,Tryz.ntmps118;go_wp2_with fail;refine(N.out _ W.out).mono ?_;rintro e ao ⟨rfl,G⟩;have M:=Z (W.out.grown G);have ad:=Z G;clear G;go_wp2_with fail;refine(O.out _ M.out).mono ?_;rintro e aj ⟨rfl,I⟩;have ap:=Z (M.out.grown I);have X:=Z (AI ad.out I);clear I;go_wp2_with fail;refine(ai.out _ ap.out).mono ?_;rintro e aB ⟨rfl,aq,ar⟩;go_wp2_with fail;refine bodyPost_ret (results_none rfl _ _ _) rfl ⟨rfl,aq,AJ (Bp X.out) ar⟩
 ·cases h with
  |er a e=>exact Ai ⟨J.out.1.symm,J.out.2.symm⟩ L
  |ok ts d=>
   have ae:BR ts s=true:=by
    unfold BR;rw[show Dn ts s=x from J.out.1,show Fl ts s=y from J.out.2];cases x<;>cases y<;>first|rfl|exact Ai ⟨rfl,rfl⟩ L
   have ac:=Z (show CG s (.ok ts d)=.ok ts.tail d from Ah ae);rw[ac.out];have au:=Z ae;clear ae;go_enter Tryz.func118,Tryz.ntmps118;go_wp2_with fail;refine(N.out _ W.out).mono ?_;rintro e ao ⟨rfl,G⟩;have M:=Z (W.out.grown G);have ad:=Z G;clear G;go_wp2_with fail;refine(O.out _ M.out).mono ?_;rintro e aj ⟨rfl,I⟩;obtain⟨aw,a,f,z,af,ag⟩:=M.out.grown I;have X:=Z (AI ad.out I);obtain⟨t,r,aa⟩:=(BS.Aj (w:=aj) (rb:=rb) (T:=T) ⟨aw,a,f,z,af,ag⟩).1.ne;have ak:=Z (BS.next z af ag aa (Fx (aa▸au.out)).1);have al:=Z (show ts.tail=r by rw[aa];rfl);obtain⟨aC,aD,aE,c3,c4⟩:=z.cells;have lb:=z.lb;have aF:=Y.frozen z.BD 1;have aG:(a:Int)≤500:=(by have:=z.lt;have:=z.tg.len;omega);clear I z af ag aa;have ax: ∀(ab:Prop),(x=true→ab)→(x=false→y=true→ab)→ab:=fun ab ay az=>by
    cases x with
    |true=>exact ay rfl
    |false=>
     cases y with
     |true=>exact az rfl rfl
     |false=>exact Ai ⟨rfl,rfl⟩ L
   clear L;refine ax _ (fun ah=>?_) (fun ah aA=>?_)
   ·subst ah;exact Z0e
   ·subst ah aA;exact Z0e
def B3:DS→DS
 | .ok ts d=> .ok (AG ts) d
 | .er a e=> .er a e
theorem C9 (rb:Nat) (T:List AX) (F:DS) (w:World) (h:BS w rb T F):Calls Tryz.prog 47 #[.pointer (some ⟨rb,0,none⟩)] w (Qu rb T (B3 F) w):=by
 have N:=Z (fun G F (K:BS G rb T F)=>Ey rb T F Fu G K);have O:=Z h;unfold Qb sv Fu at N;unfold Qu;cases F with
 |er x k=>
  have I:=Z (fun G K=>N.out G (.er x k) K);unfold Ix at I;simp only[]at I;unfold B3;clear h;go_enter Tryz.func47,Tryz.ntmps47;go_wp2_with fail;go_loopg [] 0 (fun g wr=>wr=w);case atStart=>rfl
  case round=>
   subst hrel;go_wp2_with fail;refine(I.out _ O.out).mono ?_;rintro e ab ⟨rfl,z⟩;go_wp2_with fail;refine bodyPost_end (results_none rfl _ _ _) rfl ⟨rfl,O.out.grown z,Bp z⟩
 |ok ts d=>
  unfold B3;simp only[];obtain⟨B,W⟩: ∃B,AG ts=B:=⟨_,rfl⟩;rw[W];have ak:=Z W;clear h W;go_enter Tryz.func47,Tryz.ntmps47;go_wp2_with fail;go_loopg [] ts.length (fun g wr=> ∃L,AG L=B∧L.length≤g∧BS wr rb T (.ok L d)∧w.grownBy wr (some rb));case atStart=>exact⟨ts,ak.out,BL _,O.out,AB w _⟩
  case round=>
   obtain⟨L,ac,ad,X,ae⟩:=hrel;obtain⟨t,r,rfl⟩:=X.Aj.1.ne;have af:=Z ac;have M:=Z X;have ag:=Z ae;have ah:=Z ad;clear ac X ae ad;obtain⟨c,J⟩: ∃c,Dn (t::r) [10]=c:=⟨_,rfl⟩;have I:=Z (fun G K=>by have:=N.out G (.ok (t::r) d) K;unfold Ix at this;simp only[]at this;rw[J]at this;exact this);cases c with
   |true=>
    have al:=Z (Lc J).1;have aa:=Z (show AG r=B by
     rw[←af.out];show _=(if _ then _ else _);rw[Ah (show(t.k==2&&t.t==Fu)=true from J)])
    clear J;go_wp2_with fail;refine(I.out _ M.out).mono ?_;rintro e ab ⟨rfl,z⟩;obtain⟨aq,a,f,h,ai,aj⟩:=M.out.grown z;have am:=Z (AJ ag.out (Bp z));have an:=Z (BS.next h ai aj rfl (by have:=al.out;omega));obtain⟨ar,au,aw,c3,c4⟩:=h.cells;have lb:=h.lb;have ax:=Y.frozen h.BD 1;have ay:(a:Int)≤500:=(by have:=h.lt;have:=h.tg.len;omega);clear z h ai aj;go_wp2_with fail;go_roundg (gk-1);case rel=>exact⟨r,aa.out,by have:=ah.out;simp only[BP]at this;omega,an.out,AM am.out (p:=⟨rb,1,none⟩) (.inl rfl) _⟩
    case measure=>have:=ah.out;simp only[BP]at this;omega
   |false=>
    have aa:=Z (show t::r=B by
     rw[←af.out];show _=(if _ then _ else _);rw[U (show¬(t.k==2&&t.t==Fu)=true from by rw[show(t.k==2&&t.t==Fu)=false from J];decide)])
    clear J;go_wp2_with fail;refine(I.out _ M.out).mono ?_;rintro e ab ⟨rfl,z⟩;have ao:=Z (M.out.grown z);have ap:=Z (AJ ag.out (Bp z));clear z;go_wp2_with fail;refine bodyPost_end (results_none rfl _ _ _) rfl ⟨rfl,by rw[←aa.out];exact ao.out,ap.out⟩
def F4:DS→Bool
 | .ok ts _=>BX ts
 | .er _ _=>false
theorem Z0d {P:Prop} (h:P:=by
 go_wp2_with fail;go_ret;exact⟨Bq (a:=true) (by rw[J.out];rfl),I.out⟩):P:=h
theorem Z0f {P:Prop} (h:P:=by
 go_wp2_with fail;go_ret;exact⟨Bq (a:=true) (by rw[L.out];rfl),I.out⟩):P:=h
theorem Jm (rb:Nat) (T:List AX) (ab:DS) (w:World) (G:BS w rb T ab):Calls Tryz.prog 72 #[.pointer (some ⟨rb,0,none⟩)] w (Qb (F4 ab) w):=by
 cases ab with
 |er x k=>
  obtain⟨aH,i,d,G,hk⟩:=G;obtain⟨ac,ah,aI,c3,c4⟩:=G.cells;have lb:=G.lb;have q:(k !=0)=true:=JG hk;unfold Qb F4;clear G;go_enter Tryz.func72,Tryz.ntmps72;go_wp2_with fail;go_ret;exact⟨rfl,AB w none⟩
 |ok ts d=>
  obtain⟨aH,a,f,G,ai,_⟩:=G;obtain⟨ac,ah,aI,c3,c4⟩:=G.cells;obtain⟨g,K,aj,t,r,rfl,aJ,O,ak,al,am,an⟩:=G.DY;have lb:=G.lb;have aK:=G.lt;have aL:(0:Int)≤(a:Int)∧(a:Int)<((T.length:Nat):Int):=(by omega);have ao:=G.tg.len;obtain⟨W,ap⟩: ∃W,T.length=W:=⟨_,rfl⟩;rw[ap]at ac aL aJ ao;have aq:=Z (show F4 (.ok ts d)=(FG t||FA t||t.k==3||(t.k==1&&(t.t==DQ||t.t==FZ||!DW t.t))) by rw[←ai,ak];rfl);have X:=Z (fun F=>Hq t.t F);have aa:=Z (fun F=>Ih t.t F);clear G aK ai ak ap ao;obtain⟨z,h,ad⟩:=t;simp only[]at al am an aq X aa;have L:=Z (aq.out.trans (show _=((z==2&&(h==[40]||N6 h))||(z==3)||(z==1&&(FH.contains h||h==[33]||h==[105,110]||!DW h))) by
   unfold FG FA DQ FZ Bv N6;simp only[];generalize (z==1)=aM,(z==2)=aN,(z==3)=aO,(h==[40])=aP,Fv.contains h=aQ,FH.contains h=aR,(h==[33])=aS,(h==[105,110])=aT,DW h=aU;revert aM aN aO aP aQ aR aS aT aU
   decide))
  unfold Qb sv at X aa;obtain⟨ar,au⟩: ∃b,N6 h=b:=⟨_,rfl⟩;obtain⟨ae,af⟩: ∃b,DW h=b:=⟨_,rfl⟩;rw[au]at X L;rw[af]at aa L;have a9:=Z af;clear au af;unfold Qb;go_enter Tryz.func72,Tryz.ntmps72;go_upto_region 3 with(fail);have aV:Hid (∀F:World,w.grownBy F none→(F.cell? ⟨rb,0,none⟩=some (.slice (some ⟨g,K,none⟩) W aj)∧F.cell? ⟨rb,1,none⟩=some (.int .i64 a)∧F.cell? ⟨g,K+a*3,none⟩=some (.int .i64 z)∧F.cell? ⟨g,K+a*3+1,none⟩=some (.string ⟨h.toArray⟩)∧F.cell? ⟨g,K+a*3+2,none⟩=some (.int .i64 ad))):=
   Z (fun F N=>⟨AH N lb ac,AH N lb ah,AH N O al,AH N O am,AH N O an⟩)
  go_region_held3 (fun F=>F.cell? ⟨rb,0,none⟩=some (.slice (some ⟨g,K,none⟩) W aj)∧F.cell? ⟨rb,1,none⟩=some (.int .i64 a)∧F.cell? ⟨g,K+a*3,none⟩=some (.int .i64 z)∧F.cell? ⟨g,K+a*3+1,none⟩=some (.string ⟨h.toArray⟩)∧F.cell? ⟨g,K+a*3+2,none⟩=some (.int .i64 ad))
   (first|go_keep|exact aV.out _ (by repeat' (first|(with_reducible exact AB _ _)|(with_reducible refine Af ?_ ?_ _)|(with_reducible refine AI ?_ O)|(with_reducible refine Ag ?_)|(with_reducible refine AF ?_ _)|omega|(simp;done))))
   (fail)
  have I:=Z (Ag (AF (AB w none) (.cells #[.int .i64 z,.string ⟨h.toArray⟩,.int .i64 ad] 69)));by_cases aw:z=2
  ·subst aw;by_cases M:h=[40]
   ·subst M;exact Z0f
   ·have ax:(h==[40])=false:=Ba M;have J:=Z (show F4 (.ok ts d)=ar by rw[L.out,ax];simp);clear M;go_wp2_with fail;refine(X.out _).mono ?_;rintro e aW ⟨rfl,ag⟩;go_wp2_with fail;go_ret;exact⟨Bq (a:=ar) J.out.symm,AI I.out ag⟩
  ·have a':((z:Int)==2)=false:=(by rw[beq_eq_false_iff_ne];omega);have aX:=Z (show(z==2)=false by rw[beq_eq_false_iff_ne];exact aw);by_cases ay:z=3
   ·subst ay;exact Z0f
   ·have ba:((z:Int)==3)=false:=(by rw[beq_eq_false_iff_ne];omega);have aY:=Z (show(z==3)=false by rw[beq_eq_false_iff_ne];exact ay);by_cases az:z=1
    ·subst az;have J:=Z (show F4 (.ok ts d)=(FH.contains h||h==[33]||h==[105,110]||!ae) by rw[L.out];simp);by_cases aA:h=[33]
     ·subst aA;exact Z0d
     have aZ:(h==[33])=false:=Ba aA;by_cases M:h=[123]
     ·subst M;exact Z0d
     have a0:(h==[123])=false:=Ba M;by_cases aB:h=[99,97,115,101]
     ·subst aB;exact Z0d
     have a1:(h==[99,97,115,101])=false:=Ba aB;by_cases aC:h=[102,111,114]
     ·subst aC;exact Z0d
     have a2:(h==[102,111,114])=false:=Ba aC;by_cases aD:h=[105,102]
     ·subst aD;exact Z0d
     have a3:(h==[105,102])=false:=Ba aD;by_cases aE:h=[105,110]
     ·subst aE;exact Z0d
     have a4:(h==[105,110])=false:=Ba aE;by_cases aF:h=[117,110,116,105,108]
     ·subst aF;exact Z0d
     have a5:(h==[117,110,116,105,108])=false:=Ba aF;by_cases aG:h=[119,104,105,108,101]
     ·subst aG;exact Z0d
     have a6:(h==[119,104,105,108,101])=false:=Ba aG;have a7:=Z (show F4 (.ok ts d)=!ae by
      rw[J.out];unfold FH;simp only[List.contains_cons,List.contains_nil,F2,Oz,Dp,DX,I5,Fy,aZ,a0,a1,a2,a3,a4,a5,a6,Bool.or_false,Bool.false_or])
     go_wp2_with fail;refine(aa.out _).mono ?_;rintro e aW ⟨rfl,ag⟩;go_wp2_with fail;go_ret;exact⟨Bq (a:=!ae) a7.out.symm,AI I.out ag⟩
    ·have ax:((z:Int)==1)=false:=(by rw[beq_eq_false_iff_ne];omega);have a8:=Z (show(z==1)=false by rw[beq_eq_false_iff_ne];exact az);go_wp2_with fail;go_ret;exact⟨Bq (a:=false) (by rw[L.out,a8.out,aX.out,aY.out];rfl),I.out⟩
def J9:DS→DS
 | .ok ts d=>if 24<d then(match ts with|t::_=> .er t.a 17|[]=> .er 0 17)else .ok ts (d+1)
 | .er a e=> .er a e
theorem Lb (rb:Nat) (T:List AX) (ts:List AX) (d:Nat) (w:World) (h:BS w rb T (.ok ts d)):Calls Tryz.prog 117 #[.pointer (some ⟨rb,0,none⟩)] w (Qu rb T (J9 (.ok ts d)) w):=by
 have z:=Z (fun x k L (hk:k≠0) (ah:BS L rb T (.ok ts d))=>Lk rb T (.ok ts d) x k hk L ah);have ai:=Z h;obtain⟨aj,a,f,h,G,M⟩:=h;have N:=Z h;obtain⟨I,O,W,c3,c4⟩:=h.cells;obtain⟨g,aC,aD,t,r,rfl,ak,al,X,aa,ab,ac⟩:=h.DY;have lb:=h.lb;have am:=h.lt;have an:(0:Int)≤(a:Int)∧(a:Int)<((T.length:Nat):Int):=(by omega);have ad:=h.tg.len;obtain⟨ae,af⟩: ∃ae,T.length=ae:=⟨_,rfl⟩;rw[af]at I an ak ad;have ao:=Z (show ts=t::r from G.symm.trans X);have aE:(d:Int)≤26:=(by omega);have ap:=Z (A8 G M);clear am G X af ad M;obtain⟨aF,aG,aq⟩:=t;simp only[]at aa ab ac;unfold Qu at z⊢;unfold NO at z;simp only[]at z;by_cases F:24<d
 ·have q:decide ((24:Int)<(d:Int))=true:=At (by omega);have J:=Z (show J9 (.ok ts d)=.er aq 17 by unfold J9;simp only[];rw[Ah F,ao.out]);rw[J.out];clear h F;go_enter Tryz.func117,Tryz.ntmps117;go_upto_region 1 with(fail);have K:Hid (∀n:Nat,BS (w.drewN n) rb T (.ok ts d)∧w.grownBy (w.drewN n) none):=Z (fun n=>⟨ai.out.grown (As (AB w none) n),As (AB w none) n⟩);refine Bf 12 (by kernel_rfl) (by kernel_rfl) ?_;simp only[List.take_succ_cons,List.take_zero,List.drop_succ_cons,List.drop_zero];repeat(go_big_quiet_step (fail))
  refine wpQuiet_nil ?_;rintro _ ⟨nq,rfl⟩;clear I O W c3 c4 aa ab ac al lb;go_wp2_with fail;refine(z.out _ 17 _ (by decide) (K.out nq).1).mono ?_;rintro e aH ⟨rfl,ar,ag⟩;have au:=Z (AJ (Bp (K.out nq).2) ag);clear ag;obtain⟨aj,i,aI,hx,aw⟩:=ar;obtain⟨I,O,W,c3,c4⟩:=hx.cells;have lb:=hx.lb;have ax:=Y.frozen hx.BD 2;have ay:=Z hx;clear hx K;go_wp2_with fail;refine bodyPost_end (results_none rfl _ _ _) rfl ⟨rfl,⟨_,i,_,ay.out.set 2 (.inl rfl) _,aw⟩,AM au.out (p:=⟨rb,2,none⟩) (.inl rfl) _⟩
 ·have q:decide ((24:Int)<(d:Int))=false:=Aq (by omega);have J:=Z (show J9 (.ok ts d)=.ok ts (d+1)from U F);rw[J.out];have ax:=Y.frozen N.out.BD 2;have az:=Z (N.out.set 2 (.inl rfl) ((d:Int)+1));have aA:(d:Int)≤24:=(by omega);have aB:=Z aA;clear h F;go_enter Tryz.func117,Tryz.ntmps117;go_wp2_with fail;refine bodyPost_end (results_none rfl _ _ _) rfl ⟨rfl,⟨_,a,f,az.out,ap.out.1,by have:=aB.out;omega⟩,AM (AB w (some rb)) (p:=⟨rb,2,none⟩) (.inl rfl) _⟩
end
section
open Go.RowKit Lx
section
variable {w w' W W':World} {rb:Nat} {v:Value} {av:Nat→Prop}
theorem Ur (h:w.grownBy w' (some rb)):Az (fun k=>k=rb) w w':=Az.AL h fun k hk=>by injection hk with hk;exact hk.symm
theorem Da (z:w.grownBy w' (some rb)) (F:Bk w rb 86) {e:TypeId} {s n k:Nat} {xs:List Value} (h:Own w e s v n xs k) (G:e≠86):Own w' e s v n xs k:=
 h.Bl (Ur z) fun g I e=>G ((h.AN I).uniq (e▸F))
theorem BS.AN {T:List AX} {z:DS} (h:BS w rb T z):Bk w rb 86:=by
 cases z with
 |ok ts d=>obtain⟨F,a,f,h,_⟩:=h;exact h.BD.AN
 |er x k=>obtain⟨F,i,d,h,_⟩:=h;exact h.BD.AN
theorem Bi.Mb {av:Nat→Prop} {a b r p k:Value} {n:V} (h:Bi av w a b r p k n) (z:w.grownBy w' (some rb)) (F:Bk w rb 86):Bi av w' a b r p k n:=by
 refine⟨Da z F h.AY (by decide),Da z F h.words (by decide),Da z F h.DB (by decide),?_,Da z F h.kids (by decide),h.ha,h.hb,h.hr,h.hk⟩;obtain⟨G,I,J,K⟩:=h.AS;exact⟨G,Da z F I (by decide),J,fun i L=>by obtain⟨u,M,hs,N⟩:=K i L;exact⟨u,M,Da z F hs (by decide),N⟩⟩
theorem Cm.Mb {av:Nat→Prop} {ns:List V} (F:Cm av w v ns) (h:w.grownBy w' (some rb)) (z:Bk w rb 86):Cm av w' v ns:=by
 obtain⟨G,I,J⟩:=F;exact⟨G,Da h z I (by decide),fun i K=>by obtain⟨x,y,r,p,k,e,L⟩:=J i K;exact⟨x,y,r,p,k,e,L.Mb h z⟩⟩
def low (w0:World):Nat→Prop:=fun k=>k<w0.heap.size
def GA (av:Nat→Prop) (w:World) (v:Value) (ps:List (List V)):Prop:= ∃h,Own w 22 1 v ps.length h 0∧ ∀i (z:i<ps.length),∃u,h[i]? =some u∧Cm av w u ps[i]
theorem GA.grown {ps:List (List V)} (z:GA av w v ps) (h:w.grownBy w' none):GA av w' v ps:=by
 obtain⟨F,G,I⟩:=z;exact⟨F,Bh h G,fun i J=>by obtain⟨u,K,L⟩:=I i J;exact⟨u,K,L.grown h⟩⟩
theorem Cm.form {av:Nat→Prop} {ns:List V} (z:Cm av w v ns): ∃a h,v=.slice a ns.length h∧ns.length≤h:=by
 obtain⟨I,F,_⟩:=z;obtain⟨a,h,e,G,_⟩:=F.form;exact⟨a,h,e,G⟩
theorem Cm.at_ {av:Nat→Prop} {l:List V} (G:Cm av w v l) (i:Nat) (I:i<l.length): ∃g h F a b r p k,v=.slice (some ⟨g,h,none⟩) l.length F∧g<w.heap.size∧Bi av w a b r p k l[i]∧
  w.cell? ⟨g,h+i*8,none⟩=some (.int .i64 l[i].kind)∧w.cell? ⟨g,h+i*8+1,none⟩=some (sv l[i].name)∧w.cell? ⟨g,h+i*8+2,none⟩=some (.bool l[i].A5)∧w.cell? ⟨g,h+i*8+3,none⟩=some a∧
  w.cell? ⟨g,h+i*8+4,none⟩=some b∧w.cell? ⟨g,h+i*8+5,none⟩=some r∧w.cell? ⟨g,h+i*8+6,none⟩=some p∧w.cell? ⟨g,h+i*8+7,none⟩=some k:=by
 obtain⟨X,J,K⟩:=G;obtain⟨g,h,F,rfl,_,_,L,M⟩:=J.some_ (by omega);obtain⟨a,b,r,p,k,e,N⟩:=K i I;have z: ∀j,j<8→w.cell? ⟨g,h+i*8+j,none⟩=(AT l[i] a b r p k)[j]? :=by
  intro j O;rw[Nat.add_assoc,M _ (by omega),←e,List.getElem?_take,Ah O,List.getElem?_drop]
 exact⟨g,h,F,a,b,r,p,k,rfl,L,N,z 0 (by omega),z 1 (by omega),z 2 (by omega),z 3 (by omega),z 4 (by omega),z 5 (by omega),z 6 (by omega),z 7 (by omega)⟩
theorem GA.at_ {ps:List (List V)} (G:GA av w v ps) (i:Nat) (I:i<ps.length): ∃g h z a c,v=.slice (some ⟨g,h,none⟩) ps.length z∧g<w.heap.size∧w.cell? ⟨g,h+i,none⟩=some (.slice a ps[i].length c)∧Cm av w (.slice a ps[i].length c) ps[i]:=by
 obtain⟨O,J,K⟩:=G;obtain⟨g,h,z,rfl,_,_,L,M⟩:=J.some_ (by omega);obtain⟨u,N,F⟩:=K i I;obtain⟨a,c,rfl,_⟩:=F.form;refine⟨g,h,z,a,c,rfl,L,?_,F⟩;have:=M i (by omega);rw[this,N]
end
structure Nn (av:Nat→Prop) (w W:World) (nb:Nat) (n:V) (a b r p vk vo:Value) (out:List V) (kids:List Int):Prop where
 lo: ∀k,av k→k<w.heap.size
 gr:w.grownBy W none
 low:w.heap.size≤nb
 box:Y W nb 32 (AT n a b r p vk).toArray
 kd:Ge W vk kids
 kn: ∀g,vk.ownBlock=some g→w.heap.size≤g
 out:Cm (fun k=>vk.ownBlock=some k∨av k) W vo out
 on: ∀g,vo.ownBlock=some g→w.heap.size≤g∧g≠nb
section
variable {av:Nat→Prop} {w W W' wA:World} {nb:Nat} {n:V} {a b r p vk vo vA:Value} {out:List V} {kids:List Int}
theorem Nn.grown (h:Nn av w W nb n a b r p vk vo out kids) (z:W.grownBy W' none):Nn av w W' nb n a b r p vk vo out kids:=
 ⟨h.lo,AI h.gr z,h.low,Y.grown h.box z (by simp),Bh z h.kd,h.kn,h.out.grown z,h.on⟩
theorem Mp (n:V) (a b r p k u:Value):(AT n a b r p k).toArray.setIfInBounds 7 u=(AT n a b r p u).toArray:=by simp[AT]
theorem Cm.R9 {av:Nat→Prop} {w:World} {v:Value} {ns:List V} (h:Cm av w v ns) {q:Addr} (z:v.ownBlock≠some q.block) (F:Bk w q.block 32) (u:Value):Cm av (w.setCell q u) v ns:=by
 obtain⟨G,I,J⟩:=h;have K:Fr (fun _=>True) w (w.setCell q u):=(Fr.refl _ w).set trivial (.inr F) u;exact⟨G,I.Be z u,fun i L=>by obtain⟨x,y,r,M,k,e,N⟩:=J i L;exact⟨x,y,r,M,k,e,N.fr K⟩⟩
theorem MA {S:Nat→Prop} (F:w.grownBy W none) (o:Obj) (z:Az S (W.alloc o) wA) (G: ∀k,S k→w.heap.size≤k):w.grownBy wA none:=by
 have h:=AF F o;exact⟨z.os.trans h.os,z.tape.trans h.tape,z.output.trans h.output,Ef h.size z.size,fun k hk I=>(z.block k (DP hk h.size) (fun e=>by have:=G k e;omega)).trans (h.block k hk I)⟩
theorem Nn.Ny (h:Nn av w W nb n a b r p vk vo out kids) (o:Obj) {y:Int} (J:Own wA 3 1 vA (kids.length+1) (kids.map (Value.int .i64)++[.int .i64 y]) 0) (z:Az (fun g=>vk.ownBlock=some g) (W.alloc o) wA) (K: ∀g,vA.ownBlock=some g→vk.ownBlock=some g∨(W.alloc o).heap.size≤g):
  Y wA nb 32 (AT n a b r p vk).toArray∧Nn av w (wA.setCell ⟨nb,7,none⟩ vA) nb n a b r p vA vo out (kids++[y]):=by
 have N:=AF (AB W none) o;have F:=h.grown N;have L: ∀k,vk.ownBlock=some k→Bk (W.alloc o) k 3:=fun k e=>Own.AN F.kd e
 have G:Y wA nb 32 (AT n a b r p vk).toArray:=Y.Bl F.box z fun e=>Ai ((L _ e).uniq F.box.AN) (by decide)
 have O:w.grownBy wA none:=MA h.gr o z h.kn;have X:Cm (fun k=>vA.ownBlock=some k∨av k) wA vo out:=by
  have aa:=(F.out.more (S:=fun k=>(W.alloc o).heap.size≤k) (fun _ h=>h));obtain⟨ab,M,ac⟩:=aa;refine⟨ab,M.Bl z (fun g I e=>Ai ((M.AN I).uniq (L g e)) (by decide)),fun i ad=>?_⟩;obtain⟨x,y,r,ae,k,e,af⟩:=ac i ad;refine⟨x,y,r,ae,k,e,(Bi.Bl z (fun k e=> .inl (.inl e)) af).mono fun k hk=>?_⟩;rcases hk with hk|hk
  ·rcases K k hk with e|e
   ·exact .inl (.inl e)
   ·exact .inr e
  ·exact .inl (.inr hk)
 refine⟨G,⟨h.lo,Af O (p:=⟨nb,7,none⟩) h.low _,h.low,?_,?_,fun g I=>?_,?_,h.on⟩⟩
 ·have:=Y.AV G 7 vA;rw[Mp]at this;exact this
 ·have ag:vA.ownBlock≠some nb:=fun e=>Ai ((J.AN e).uniq G.AN) (by decide)
  unfold Ge;rw[BE,Cd,List.map_append];exact J.Be (p:=⟨nb,7,none⟩) ag _
 ·rcases K g I with e|e
  ·exact h.kn g e
  ·rw[World.size_alloc]at e;have:=h.gr.size;omega
 ·exact X.R9 (q:=⟨nb,7,none⟩) (fun e=>(h.on _ e).2 rfl) G.AN _
theorem Nn.node (h:Nn av w W nb n a b r p vk vo out kids) {G:World} (z:W.grownBy G none) {M:List Value} (aa:Own W 32 8 vo out.length M 0) (ai: ∀i (h:i<out.length),∃a b r p k,(M.drop (i*8)).take 8=AT out[i] a b r p k∧Bi (fun k=>vk.ownBlock=some k∨av k) W a b r p k out[i])
  {x:V} {ab ac ad ae aj N:Value} (hx:Bi av W ab ac ad ae aj x) {O:List Int} (ak:Ge G N O) (al: ∀g,N.ownBlock=some g→W.heap.size≤g)
  (o:Obj) (am:Own wA 32 8 vA (out.length+1) (M++AT { x with kids:=O } ab ac ad ae N) 0) (K:Az (fun g=>vo.ownBlock=some g) (G.alloc o) wA) (an: ∀g,vA.ownBlock=some g→vo.ownBlock=some g∨(G.alloc o).heap.size≤g):
  Nn av w wA nb n a b r p vk vA (out++[{ x with kids:=O }]) kids:=by
 have L:=AF z o;have I:=h.grown L;have af: ∀k,vo.ownBlock=some k→Bk (G.alloc o) k 32:=fun k e=>Own.AN (Bh L aa) e
 have ao:Fr (fun _=>True) (G.alloc o) wA:=Az.mono K fun k _ e=>⟨trivial,.inr (af k e)⟩
 have ag: ∀k,vk.ownBlock=some k→Bk (G.alloc o) k 3:=fun k e=>Own.AN I.kd e
 refine⟨h.lo,MA (AI h.gr z) o K (fun k e=>(h.on k e).1),h.low,Y.Bl I.box K (fun e=>(h.on _ e).2 rfl),I.kd.Bl K (fun g z e=>Ai ((ag g z).uniq (af g e)) (by decide)),h.kn,?_,fun g z=>?_⟩
 ·have ap:=aa.len;refine Cm.add (w:=G.alloc o) (base:=fun _=>True) ap (fun i X=>?_) am ao ?_
  ·obtain⟨aq,ar,au,aw,ax,e,ay⟩:=ai i X;exact⟨aq,ar,au,aw,ax,e,ay.fr (base:=fun _=>False) (Fr.AL L)⟩
  ·have F:=hx.fr (base:=fun _=>False) (Fr.AL L);have J: ∀ {e:TypeId} {s m k:Nat} {v:Value} {xs:List Value},Own (G.alloc o) e s v m xs k→e≠3→Av av v→Av (fun k=>vk.ownBlock=some k∨av k) v:=fun az aA aB g z hk=>hk.elim (fun hk=>aA ((az.AN z).uniq (ag g hk))) (fun hk=>aB g z hk)
   obtain⟨aC,ah,pa,aD⟩:=F.AS;refine⟨F.AY,F.words,F.DB,⟨aC,ah,J ah (by decide) pa,fun i X=>?_⟩,Own.alloc ak o,J F.AY (by decide) F.ha,J F.words (by decide) F.hb,J F.DB (by decide) F.hr,fun g z hk=>?_⟩
   ·obtain⟨u,aE,hs,aF⟩:=aD i X;exact⟨u,aE,hs,J hs (by decide) aF⟩
   ·have aI:=al g z;rcases hk with hk|hk
    ·have aG:=Own.lt h.kd hk;omega
    ·have aG:=h.lo g hk;have aH:=h.gr.size;omega
 ·rcases an g z with e|e
  ·exact h.on g e
  ·have aH:=I.gr.size;have aJ:=Y.lt I.box;omega
end
theorem Ja {α:Type} {l:List α} {i:Nat} (h:i<l.length):l.take (i+1)=l.take i++[l[i]]:=List.take_succ_eq_append_getElem h
end
end Go.Proofs.YtdhfhphbkfgamaaGreat
