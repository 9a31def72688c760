/- PrintTells: a part of its proof. -/
import Derived.RangeFuncNested
import Derived.RangeFuncBound
import Derived.RangeFuncCalls
import Derived.RangeFuncLeaves
import Derived.RangeFuncBox
import Derived.RangeFuncWrites
import Derived.Shelf.Abstract
import Derived.OwnWalkIn
import Derived.TacticsInMore
import Derived.LoopNIn
import Derived.LoopIn
import Derived.Test.YtdhfhphbkfgamaaGreatTl
set_option maxRecDepth 100000
set_option maxHeartbeats 64000000
namespace Go.Proofs.YtdhfhphbkfgamaaGreat
section
open Go.RowKit Lx Go.Shelf
theorem OA:Tryz.prog.cellsOf 5=1:=by kernel_rfl
theorem Lz (h:World) (q:Option Addr):(Builtin.unsafeString_ #[59,3] 9 #[.pointer q,.int .i64 0]).run Tryz.prog h=.ok (.string .empty) h:=Lib.run_unsafeString_none h _ _ _ q
theorem Z1q {P:Prop} (h:P:=by
 unfold C0;go_enter Tryz.func11,Tryz.ntmps11;go_wp2
 go_region_o;all_goals(go_wp2;go_ret;exact⟨rfl,Below.drew (Below.refl B w)⟩)):P:=h
theorem RN (B h:Nat) (v p:Value) (w:World) (z:Y w h 41 #[v,p,.slice none 0 0]):
  Calls Tryz.prog 11 #[C0 h] w fun e w'=>e=.returned (.string ⟨#[]⟩)∧Below B w w':=by
 have F:=Lz;have G:w.drew.cell? ⟨h,2,none⟩=some (.slice none 0 0):=Y.cell z 2;have I:(Builtin.unsafeSliceData_ #[37] 59 #[.slice none 0 0]).run Tryz.prog w.drew=.ok (.pointer none) w.drew:=rfl;clear z;have J:Tryz.prog.follows .mixedOrders=true:=(by kernel_rfl);exact Z1q
theorem M8 (B h g:Nat) (v p:Value) (F:Array Value) (w:World) (I:B≤w.heap.size) (z:Y w h 41 #[v,p,.slice (some ⟨g,0,none⟩) 0 0]) (G:w.heap[g]? =some (.cells F 5 (0,0))):
  Calls Tryz.prog 11 #[C0 h] w fun e w'=>e=.returned (.string ⟨#[]⟩)∧Below B w w':=by
 have N:=Lz;have J:=Y.lt z;have K:w.drew.cell? ⟨h,2,none⟩=some (.slice (some ⟨g,0,none⟩) 0 0):=Y.cell z 2;have O:(Builtin.unsafeSliceData_ #[37] 59 #[.slice (some ⟨g,0,none⟩) 0 0]).run Tryz.prog w.drew=.ok (.pointer (some ⟨w.drew.heap.size,0,none⟩)) (w.drew.alloc (.view ⟨g,0,none⟩ 5)):=
  Lib.run_unsafeSliceData_zero w.drew _ _ 5 Tryz.underlying59 ⟨g,0,none⟩ 0 (5,F.size) (by have L:w.drew.heap[g]? =some (.cells F 5 (0,0)):=G;simp[World.shape?,L])
 have M:(w.drew.alloc (.view ⟨g,0,none⟩ 5)).cell? ⟨h,2,none⟩=some (.slice (some ⟨g,0,none⟩) 0 0):=by
  have:(w.drew.alloc (.view ⟨g,0,none⟩ 5)).heap[h]? =_:=(Lib.alloc_old w.drew _ h J).trans z;rw[Lib.cell_of_heap this];rfl
 have c3:(w.alloc (.view ⟨g,0,none⟩ 5)).drew.cell? ⟨h,2,none⟩=some (.slice (some ⟨g,0,none⟩) 0 0):=M;have W:w.cell? ⟨h,2,none⟩=some (.slice (some ⟨g,0,none⟩) 0 0):=K;clear z G;have X:Tryz.prog.follows .mixedOrders=true:=(by kernel_rfl);unfold C0;go_enter Tryz.func11,Tryz.ntmps11;go_wp2
 go_region_o;all_goals(go_wp2;go_ret;exact⟨rfl,(Below.drew (Below.refl B w)).alloc I _⟩)
theorem QY (B z g h:Nat) (v p:Value) (w:World) (F:h≠0) (G:Y w z 41 #[v,p,.slice (some ⟨g,0,none⟩) 0 h]):
  Calls Tryz.prog 11 #[C0 z] w fun e w'=>e=.returned (.string ⟨#[]⟩)∧Below B w w':=by
 have I:=Lz;have J:w.drew.cell? ⟨z,2,none⟩=some (.slice (some ⟨g,0,none⟩) 0 h):=Y.cell G 2;have K:(Builtin.unsafeSliceData_ #[37] 59 #[.slice (some ⟨g,0,none⟩) 0 h]).run Tryz.prog w.drew=.ok (.pointer (some ⟨g,0,none⟩)) w.drew:=
  Lib.run_unsafeSliceData_row _ _ _ _ _ _ F
 clear G F;have L:Tryz.prog.follows .mixedOrders=true:=(by kernel_rfl);exact Z1q
theorem PY (B F:Nat) (v p J:Value) (l:List UInt8) (w:World) (G:FK B w F v p J l) (K:l≠[]):
  Calls Tryz.prog 11 #[C0 F] w fun e w'=>e=.returned (.string ⟨l.toArray⟩)∧Below B w w':=by
 have I:=G.own;have L:=G.BD;have M:l.length≠0:=(by simpa using K);obtain⟨g,h,z,rfl,N,O,ac,W,ad,ae⟩: ∃g h z,J=.slice (some ⟨g,0,none⟩) l.length h∧B≤g∧w.heap[g]? =some (.cells z 5 (0,0))∧l.length≤h∧h≤maxLen∧z.size=h*1∧z.toList.take (l.length*1)=Lib.byteCells l:=by
  rcases I.2 with⟨_,X⟩|⟨g,h,z,aa,r⟩
  ·exact Ai X M
  ·exact⟨g,h,z,aa,r⟩
 have af:w.drew.cell? ⟨F,2,none⟩=some (.slice (some ⟨g,0,none⟩) l.length h):=Y.cell L 2;have ag:(Builtin.unsafeSliceData_ #[37] 59 #[.slice (some ⟨g,0,none⟩) l.length h]).run Tryz.prog w.drew=.ok (.pointer (some ⟨g,0,none⟩)) w.drew:=
  Lib.run_unsafeSliceData_row _ _ _ _ _ _ (by omega)
 have ah:(Builtin.unsafeString_ #[59,3] 9 #[.pointer (some ⟨g,0,none⟩),.int .i64 l.length]).run Tryz.prog w.drew=.ok (.string ⟨l.toArray⟩) (w.drew.freeze ⟨g,0,none⟩ l.length):=by
  refine Lib.run_unsafeString_row w.drew 59 3 9 5 Tryz.underlying59 OA g z.size (by have ab:w.drew.heap[g]? =some (.cells z 5 (0,0)):=O;simp[World.shape?,ab]) l K (by omega) (by unfold maxLen at W;omega) ?_;intro j x hx;have:=I.cells (g:=g) rfl j (.int .u8 x.toNat) (by simp[Lib.byteCells,hx]);exact this
 clear I L G;have ai:Tryz.prog.follows .mixedOrders=true:=(by kernel_rfl);unfold C0;go_enter Tryz.func11,Tryz.ntmps11;go_wp2
 go_region_o;all_goals(go_wp2;go_ret;exact⟨rfl,Lib.below_freeze (Below.drew (Below.refl B w)) (p:=⟨g,0,none⟩) N _⟩)
theorem Rq (B h:Nat) (l:List V) (b:List UInt8) (w:World) (K:CA B w h l b):Calls Tryz.prog 11 #[C0 h] w fun e w'=>e=.returned (sv b)∧Below B w w':=by
 obtain⟨v,p,L,z,_,_,_⟩:=K;by_cases G:b=[]
 ·subst G;have F:=z.BD;have M:=z.lt;rcases z.own.2 with⟨rfl,_⟩|⟨g,I,N,rfl,W,O,_⟩
  ·exact RN B h v p w F
  ·by_cases J:I=0
   ·subst J;exact M8 B h g v p N w M F O
   ·exact QY B h g I v p w J F
 ·exact PY B h v p L b w z G
theorem Nh (n0 h:Nat) (l:List V) (z:Cy l): ∀f,Iq n0 h l (Ax l f) (min f l.length)
 |0=>fun i F=>by omega
 |f+1=>fun i F b w G=>PE n0 h f l z (Nh n0 h l z f) i F b w G
end
section
open Go.RowKit Lx Go.Shelf
attribute [local go_sem] Oper.semAt_some
def KC (h:Nat) (z F:World):Prop:= ∀(p:Addr) (v:Value),p.block≠h→z.cell? p=some v→F.cell? p=some v
theorem KC.refl (z:Nat) (h:World):KC z h h:=fun _ _ _ F=>F
theorem KC.trans {h:Nat} {A B C:World} (F:KC h A B) (k:KC h B C):KC h A C:=fun p v z G=>k p v z (F p v z G)
def Kk (h:List Int) (k:Nat):List (Nat×Int):=(List.range k).map fun j=>(h.length-1-j,h[h.length-1-j]?.getD 0)
theorem LL (h:List Int) (k:Nat):Kk h (k+1)=Kk h k++[(h.length-1-k,h[h.length-1-k]?.getD 0)]:=by simp[Kk,List.range_succ]
theorem Qh (h:List Int) (k:Nat):(Kk h k).length=k:=by simp[Kk]
theorem JZ (h:List Int): ∀k,k≤h.length→(Kk h k).map Prod.snd=h.reverse.take k
 |0,_=>rfl
 |k+1,z=>by
  have hk:k<h.reverse.length:=(by rw[List.length_reverse];omega);rw[LL,List.map_append,JZ h k (by omega),List.take_succ_eq_append_getElem hk,List.getElem_reverse];rw[List.map_singleton,List.getElem?_eq_getElem (by omega)];rfl
theorem SP (J:Fence) (n:Nat) (ad:J.fn 51) (ae:J.round=none) (ax:1≤n) (l L K:Nat) (a:Option Addr) (af:Nat) (h:List Int) (ay:h.length≤9223372036854775807) (ag:L≠K) (G X:List (Nat×Int)→World→Prop)
  (ah: ∀pre x z,G pre z→pre.length<h.length→YieldAt J (n-1) Tryz.prog l #[.int .i64 (x.1:Int),.int .i64 x.2] z fun e F=>
   (e=.returned (.bool true)∧G (pre++[x]) F∧KC K z F)∨(e=.returned (.bool false)∧X (pre++[x]) F))
  (z:World) (ai:z.cell? ⟨L,0,none⟩=some (.slice a h.length af)) (aj:0<h.length→ ∃g M,a=some ⟨g,M,none⟩∧g≠K∧ ∀j,j<h.length→z.cell? ⟨g,M+j,none⟩=some (.int .i64 (h[j]?.getD 0))) (ak:G [] z):
  CallsIn J n Tryz.prog 51 #[.func (.yield l) #[] #[],.pointer (some ⟨L,0,none⟩)] z fun e F=>(∃v,e=.returned v)∧
   ((∃aa,aa=Kk h h.length∧G aa F)∨(∃pre,(∃k,k≤h.length∧pre=Kk h k)∧X pre F)):=by
 refine callsIn_of_wp Tryz.func51 rfl ad ?_ ae;simp only[Tryz.ntmps51,List.size_toArray,BP,List.length_nil,Nat.reduceAdd,Nat.reduceSub,Array.replicate_succ,Array.replicate_zero,List.push_toArray,List.append_toArray,List.nil_append,List.cons_append];gi_wp2
 gi_loopw [3] (fun i wr=> ∃k:Nat,k≤h.length∧i=.int .i64 ((h.length:Int)-1-k)∧G (Kk h k) wr∧KC K z wr)
  (fun i _=>(intOf i+1).toNat)
 case atStart=>exact⟨0,DM _,by simp,ak,KC.refl _ _⟩
 case round=>
  obtain⟨k,hk,rfl,ab,N⟩:=hrel;have az:=N _ _ ag ai;by_cases al:k<h.length
  ·obtain⟨g,M,rfl,am,an⟩:=aj (by omega);have ao:=N _ _ am (an (h.length-1-k) (by omega));obtain⟨i,O⟩: ∃i,h.length-1-k=i:=⟨_,rfl⟩;have I:(h.length:Int)-1-(k:Int)=(i:Int):=(by omega);have W:=LL h k;obtain⟨fn,aA,assign,body,hy,ap⟩:=ah _ (i,h[i]?.getD 0) wr ab (by rw[Qh];exact al);dsimp only at hy
   rw[O]at ao W;rw[I];have aB:(0:Int)≤i∧(i:Int)<(h.length:Int):=(by omega);have ac:=Z W;have aq:=Z (A8 O I);clear W O I;gi_wp2
   refine ap.mono ?_;rintro e aC (⟨rfl,ar,au⟩|⟨rfl,aw⟩)
   ·gi_wp2
    go_roundw;case rel=>exact⟨k+1,by omega,by have:=aq.out.2;congr 1;omega,by rw[ac.out];exact ar,N.trans au⟩
    case measure=>simp[intOf]
   ·gi_wp2
    refine bodyPost_ret (results_none rfl _ _ _) rfl ?_;exact⟨⟨_,rfl⟩,.inr ⟨_,⟨k+1,by omega,ac.out.symm⟩,aw⟩⟩
  ·obtain rfl:k=h.length:=by omega
   have I:(h.length:Int)-1-(h.length:Int)= -1:=(by omega);rw[I];gi_wp2
   go_end0
   exact⟨⟨_,rfl⟩,.inl ⟨_,rfl,ab⟩⟩
theorem TL (h:Fence) (n:Nat) (G:h.fn 18) (I:h.round=none) (a:Option Addr) (z F:Nat) (w:World):
  CallsIn h n Tryz.prog 18 #[.slice a z F] w fun e w'=>e=.returned (.func (.func 51) #[] #[.pointer (some ⟨w.heap.size,0,none⟩)])∧w'=w.alloc (.cells #[.slice a z F] 30):=by
 refine callsIn_of_wp Tryz.func18 rfl G ?_ I;simp only[Tryz.ntmps18,List.size_toArray,BP,List.length_nil,Nat.reduceAdd,Nat.reduceSub,Array.replicate_succ,Array.replicate_zero,List.push_toArray,List.append_toArray,List.nil_append,List.cons_append];gi_wp2
 go_ret;exact⟨rfl,rfl⟩
theorem N7 (G:Fence) (n:Nat) (L:G.fn 51) (M:G.round=none) (N:1≤n) (z I:Nat) (a:Option Addr) (J:Nat) (h:List Int) (O:h.length≤9223372036854775807) (w:World) (W:z<w.heap.size) (X:z≠I)
  (aa:w.cell? ⟨z,0,none⟩=some (.slice a h.length J)) (ab:0<h.length→ ∃g F,a=some ⟨g,F,none⟩∧g≠I∧g<w.heap.size∧ ∀j,j<h.length→w.cell? ⟨g,F+j,none⟩=some (.int .i64 (h[j]?.getD 0))):
  SeqStopsK G n Tryz.prog 51 #[.pointer (some ⟨z,0,none⟩)] (fun x:Nat×Int=> #[Value.int .i64 (x.1:Int),Value.int .i64 x.2]) (KC I) (fun ac=>ac=Kk h h.length) (fun pre=> ∃k,k≤h.length∧pre=Kk h k) h.length w:=fun l ad ae af K _ _ ag ah=>by
 refine SP G n L M N l z I a J h O X ad ae ag af ((K.cell (p:=⟨z,0,none⟩) W).trans aa) (fun ai=>?_) ah;obtain⟨g,F,aj,ak,al,am⟩:=ab ai;exact⟨g,F,aj,ak,fun j an=>(K.cell (p:=⟨g,F+j,none⟩) al).trans (am j an)⟩
end
section
open Go.RowKit Lx Go.Shelf
attribute [local go_sem] Oper.semAt_some
theorem R7 {n0:Nat} {a b:World} (h:PF n0 a b) (F:n0≤a.heap.size):Below n0 a b:=
 ⟨h.os,h.tape,h.output,h.size,fun k hk=>h.block k (by omega) (fun z=>by have:=z.1;omega)⟩
theorem DC {n0:Nat} {a b:World} (h:a.grownBy b none) (z:n0≤a.heap.size):Below n0 a b:=
 ⟨h.os,h.tape,h.output,h.size,fun k hk=>h.block k (by omega) (by simp)⟩
theorem E9 {a b:World} (h:Below a.heap.size a b):a.grownBy b none:=⟨h.os,h.tape,h.output,h.size,fun k hk _=>h.block k hk⟩
theorem I1 (z:List Nat) (c:Bool): ∀(F h:List Int) (f:Nat),EP z c (F++h) f=match EP z c F f with
  |some G=>EP z c h G
  |none=>none
 |[],h,f=>rfl
 |k::r,h,f=>by
  rw[List.cons_append,EP,EP];split
  ·exact I1 z c r h f
  ·split
   ·rfl
   ·exact I1 z c r h _
theorem Gx: ∀(a b:List V) (h:List Nat),FX (a++b) h=match FX a h with
  |some z=>FX b z
  |none=>none
 |[],b,h=>rfl
 |n::r,b,h=>by
  rw[List.cons_append,FX,FX];cases EP h (n.kind==14) n.kids.reverse h.length with
  |none=>rfl
  |some x=>exact Gx r b _
def Xh (D:Nat):Deferred:= { target:=.collected D,args:=#[] }
structure Nk (w W:World) (R Gb G N:Nat) (bs Ds:List Nat):Prop where
 gb:W.cell? ⟨Gb,0,none⟩=some (.slice (some ⟨G,0,none⟩) N N)
 row: ∀j,j<N→W.cell? ⟨G,j,none⟩=some (.int .i64 (bs.getD j 0))
 Py: ∀j,j<N→W.frozen? ⟨G,j,none⟩=false
 res:W.cell? ⟨R,0,none⟩=some (.bool false)
 Mn:W.frozen? ⟨R,0,none⟩=false
 ds: ∀D∈Ds,W.heap[D]? =some (.deferred (some []))
 WG: ∀D∈Ds,w.heap.size≤D
 nd:Ds.Nodup
 Qe:Below w.heap.size w W
 lo:w.heap.size≤R∧w.heap.size≤Gb∧w.heap.size≤G∧R≠Gb∧R≠G∧Gb≠G
theorem Ly {h:World} {p:Addr} {v:Value} (z:h.cell? p=some v):p.block<h.heap.size:=World.block_lt_of_cell? h p z
theorem Nk.kept {w G L:World} {R M N O:Nat} {W J:List Nat} {row:Option Nat} {B:Nat} (h:Nk w G R M N O W J) (ad:w.heap.size≤B) (ab: ∀D∈J,D<B) (z:G.grownBy L row) (K: ∀r,row=some r→B≤r∧ ∃o:Obj,G.heap[r]? =some o∧o.isCells=false):Nk w L R M N O W J:=by
 have F: ∀r,row=some r→ ∃o:Obj,G.heap[r]? =some o∧o.isCells=false:=fun r e=>(K r e).2
 refine⟨cell_kept h.gb z F,fun j I=>cell_kept (h.row j I) z F,fun j I=>(frozen_kept (h.row j I) z F).trans (h.Py j I),cell_kept h.res z F,(frozen_kept h.res z F).trans h.Mn,fun D X=>?_,h.WG,h.nd,?_,h.lo⟩
 ·have aa:=h.ds D X;have ac:=(Array.getElem?_eq_some_iff.1 aa).1;rw[z.block D ac (fun e=>by have:=(K D e.symm).1;have:=ab D X;omega)];exact aa
 ·refine h.Qe.grown z h.Qe.size (fun k e=>?_);have:=(K k e).1;omega
theorem Nk.alloc {w h:World} {R F G I:Nat} {J K:List Nat} (z:Nk w h R F G I J K) (o:Obj):Nk w (h.alloc o) R F G I J K:=
 z.kept (B:=h.heap.size) z.Qe.size (fun D L=>(Array.getElem?_eq_some_iff.1 (z.ds D L)).1) (World.grownBy_alloc h o none) (fun r e=>by cases e)
theorem Nk.Xr {w F:World} {R G I K:Nat} {L M:List Nat} (h:Nk w F R G I K L M) {z:Nat} (N:z≠R) (O:z≠G) (W:z≠I) (X:w.heap.size≤z) {aa:Value} (ac:F.cell? ⟨z,0,none⟩=some aa) (v:Value):Nk w (F.setCell ⟨z,0,none⟩ v) R G I K L M:=by
 refine⟨by rw[World.cell?_setCell_far _ _ _ _ O];exact h.gb,fun j J=>by rw[World.cell?_setCell_far _ _ _ _ W];exact h.row j J,fun j J=>by rw[World.frozen?_setCell];exact h.Py j J,by rw[World.cell?_setCell_far _ _ _ _ N];exact h.res,by rw[World.frozen?_setCell];exact h.Mn,fun D ab=>?_,h.WG,h.nd,h.Qe.setCell (p:=⟨z,0,none⟩) X v,h.lo⟩;exact(KeepsOthers.setCell F ⟨z,0,none⟩ v).same D _ (h.ds D ab) rfl
theorem I3 (N:Fence) (n R:Nat) (F:Array Value) (O:F.getD 2 undef=.pointer (some ⟨R,0,none⟩)) (r:Bool) (w:World): ∀(z:List Nat) (h:World),h.cell? ⟨R,0,none⟩=some (.bool r)→(∀D∈z,h.heap[D]? =some (.deferred (some [])))→z.Nodup→(∀D∈z,w.heap.size≤D)→Below w.heap.size w h→
  LeavesInM N n Tryz.prog Tryz.f9 F (fun e w'=>e=.returned (.bool r)∧Below w.heap.size w w') (z.map Xh) .returning h
 |[],h,G,_,_,_,I=>by
  refine⟨.bool r,?_,rfl,I⟩;have aa:F[2]?.getD undef=.pointer (some ⟨R,0,none⟩):=(by simpa using O);simp[results,Tryz.f9,go_sem,aa,G]
 |D::z,h,G,W,J,X,I=>by
  have K:=W D (List.mem_cons_self ..);rw[List.nodup_cons]at J;refine⟨by simp,.inl ⟨D,_,rfl,run_takeDeferred K,I3 N n R F O r w z _ ?_ ?_ J.2 (fun L ab=>X L (List.mem_cons_of_mem _ ab)) ?_⟩⟩
  ·exact cell_kept G (grownBy_putObj' h D (.deferred none)) (fun r e=>by cases e;exact⟨_,K,rfl⟩)
  ·intro L M;rw[World.putObj_heap_other (fun e=>J.1 (by first|(rw[←e];exact M)|(rw[e];exact M)))];exact W L (List.mem_cons_of_mem _ M)
  ·exact I.trans (belowK_b (w:=w) (BL _) h D _ _ (X D (List.mem_cons_self ..)) K rfl rfl)
def JX (h:Nat):Array Value:=madeCells (Value.int .i64 0).cells (h*1)
theorem VO:(Tryz.prog.info? 3).map (fun i=>(i.zero,i.size,i.bytes))=some (some (.int .i64 0),1,8):=by kernel_rfl
theorem OJ (h j:Nat) (z:j<h):(JX h)[j]? =some (.int .i64 0):=by
 unfold JX madeCells;rw[Array.getElem?_map,Array.getElem?_range,Ah (by omega)];have e:(Value.int .i64 0).cells=#[.int .i64 0]:=rfl;rw[e];simp[Nat.mod_one]
theorem Z1r {P:Prop} (h:P:=by
 have eg:=Z ay;clear ay ae;gi_wp2
 all_goals exact⟨(KeepsOthers.setCell _ _ _).from _,rfl,dh.out,bY.out _ rfl⟩):P:=h
theorem Z1s {P:Prop} (h:P:=by
 rw[Bool.eq_false_iff];intro z;simp only[Bool.and_eq_true,beq_iff_eq]at z;exact ah z):P:=h
theorem Z1t {P:Prop} (h:P:=by
 gi_wp2
 first|exact aA.out _ rfl _ (.inl rfl)|exact aA.out _ rfl _ (.inr rfl)):P:=h
theorem R6 (W:Fence) (n:Nat) (dx:W.fn 9) (dy:W.fn 18) (cG:W.fn 51) (a1:W.round=none) (eq:4≤n) (n0:Nat) (l:List V) (v:Value) (w:World) (z:DZ n0 w v l):
  CallsIn W n Tryz.prog 9 #[v] w fun e w'=>e=.returned (.bool (D7 l))∧Below w.heap.size w w':=by
 have b0:1≤n:=(by omega);obtain⟨cH,aB,rfl,es⟩:=z.form;have et:(l.length:Int)≤9223372036854775807:=(by omega);refine callsIn_of_wp_marks Tryz.func9 rfl dx ?_ a1;simp only[Tryz.ntmps9,List.size_toArray,BP,List.length_nil,Nat.reduceAdd,Nat.reduceSub,Array.replicate_succ,Array.replicate_zero,List.push_toArray,List.append_toArray,List.nil_append,List.cons_append];by_cases cI:1≤l.length∧l.length≤300
 ·have cJ:decide ((l.length:Int)<1)=false:=Aq (by omega);have dz:decide ((300:Int)<(l.length:Int))=false:=Aq (by omega);have eu: ∀I:World,(Instr.makeSlice 30 (.int .i64 (l.length:Int)) (.int .i64 (l.length:Int))).run Tryz.prog I=.ok (.slice (some ⟨I.heap.size,0,none⟩) l.length l.length) (I.alloc (.cells (JX l.length) 3)):=by
   intro I;obtain⟨dA,dB,dC,dD,dE⟩:=info_parts VO;have aj:=run_make (P:=Tryz.prog) I 30 3 dA (.int .i64 0) (by kernel_rfl) dB dC .i64 .i64 l.length l.length (by omega) (by omega) (by rw[dE];omega) (by omega);simp only[Int.toNat_natCast]at aj;rw[aj,dD];rfl
  gi_wp2
  have aC:=World.grownBy_alloc w (.cells #[.bool false] 4) none;have ao:=Y.new w 4 #[.bool false];obtain⟨aD,b1⟩: ∃aD,w.alloc (.cells #[.bool false] 4)=aD:=⟨_,rfl⟩;rw[b1]at aC ao⊢;have s1:aD.heap.size=w.heap.size+1:=(by rw[←b1,World.size_alloc]);have a2:=World.grownBy_alloc aD (.cells (JX l.length) 3) none;have aO:=Y.new aD 3 (JX l.length);obtain⟨aE,b2⟩: ∃aE,aD.alloc (.cells (JX l.length) 3)=aE:=⟨_,rfl⟩;rw[b2]at a2 aO⊢;have s2:aE.heap.size=w.heap.size+1+1:=(by rw[←b2,World.size_alloc,s1]);have aP:=World.grownBy_alloc aE (.cells #[.slice (some ⟨w.heap.size+1,0,none⟩) l.length l.length] 30) none;have aQ:=Y.new aE 30 #[.slice (some ⟨w.heap.size+1,0,none⟩) l.length l.length];obtain⟨b3,cK⟩: ∃b3,aE.alloc (.cells #[.slice (some ⟨w.heap.size+1,0,none⟩) l.length l.length] 30)=b3:=⟨_,rfl⟩;rw[cK]at aP aQ⊢;rw[s1]at aO;rw[s2]at aQ;obtain⟨R,a3⟩: ∃R,w.heap.size=R:=⟨_,rfl⟩;obtain⟨K,b4⟩: ∃K,w.heap.size+1=K:=⟨_,rfl⟩;obtain⟨X,cL⟩: ∃X,w.heap.size+1+1=X:=⟨_,rfl⟩;rw[cL,b4]at aQ;rw[b4]at aO;rw[a3]at ao;have b5:=Y.grown (Y.grown ao a2 (by simp)) aP (by simp);have b6:=Y.grown aO aP (by simp);have cM:Nk w b3 R X K l.length [] []:=by
   refine⟨Y.cell aQ 0,fun j J=>?_,fun j _=>Y.frozen b6 j,Y.cell b5 0,Y.frozen b5 0,fun _ z=>(by cases z),fun _ z=>(by cases z),List.nodup_nil,?_,by omega⟩
   ·rw[Y.cell b6 j,OJ _ _ J];rfl
   ·exact((DC aC (BL _)).trans (DC a2 (by omega))).trans (DC aP (by omega))
  have dF:=Z cM;rw[cL,b4,a3];clear aC a2 aP ao aO aQ b5 b6 b1 b2 cK cM;refine wpIn_loop (fun a I=> ∃(i:Nat) (F aa:List Nat) (a4 cN cO cP a5 b7 a6 a7 a8 a9 a' ba bb bc bd be bf cQ cR cS cT cU cV cW cX b8 b9 bg bh bi bj bk bl bm bn bo bp bq br bs bt bu bv bw bx bz bA bB bC bD bE bF bG bH bI bJ bK bL:Value),a= { tmps:=#[.slice cH l.length aB,a4,.pointer (some ⟨R,0,none⟩),.pointer (some ⟨X,0,none⟩),cN,cO,cP,a5,b7,a6,a7,a8,a9,a',ba,bb,bc,bd,be,bf,.slice cH l.length aB,.int .i64 l.length,.int .i64 i,cQ,cR,cS,cT,cU,cV,cW,cX,b8,b9,bg,bh,bi,bj,bk,bl,bm,bn,bo,bp,bq,br,bs,bt,bu,bv,bw,bx,bz,bA,bB,bC,bD,bE,bF,bG,bH,bI,bJ,bK,bL],defers:=aa.map Xh } ∧i≤l.length∧F.length=i∧FX (l.take i) []=some F∧(∀j,j<i→F.getD j 0≤j)∧Nk w I R X K l.length F aa) (fun a _=>l.length-(intOf (a.tmps.getD 22 undef)).toNat) ?start ?round;case start=>
   exact⟨0,[],[],_,_,_,_,_,_,_,_,_,_,_,_,_,_,_,_,_,_,_,_,_,_,_,_,_,_,_,_,_,_,_,_,_,_,_,_,_,_,_,_,_,_,_,_,_,_,_,_,_,_,_,_,_,_,_,_,_,_,rfl,DM _,rfl,rfl,fun j z=>by omega,dF.out⟩
  case round=>
   rintro a I ⟨i,F,aa,a4,cN,cO,cP,a5,b7,a6,a7,a8,a9,a',ba,bb,bc,bd,be,bf,cQ,cR,cS,cT,cU,cV,cW,cX,b8,b9,bg,bh,bi,bj,bk,bl,bm,bn,bo,bp,bq,br,bs,bt,bu,bv,bw,bx,bz,bA,bB,bC,bD,bE,bF,bG,bH,bI,bJ,bK,bL,rfl,ev,ag,cY,cZ,L⟩;have au:=Z L;have b':=Z cY;clear cY;by_cases aF:i<l.length
   ·have dG:decide ((i:Int)<(l.length:Int))=true:=At (by omega);have ew:(0:Int)≤i∧(i:Int)<(l.length:Int):=(by omega);obtain⟨g,ak,ex,ey,ez,eA,eB,eC,aR,_,_,al,bM,ca,cb,cc,cd,ce,cf,cg,ch⟩:=z.at_ i aF;injection aR with aR _ dH;subst aR dH;obtain⟨aG,aH,aI,aJ,aK,c3,aL,c4,N,ab,rfl,rfl,rfl,rfl,rfl⟩:=bM.C1;obtain⟨h,ci⟩: ∃n,l[i]=n:=⟨_,rfl⟩;rw[ci]at bM ca cb cc cd ce cf cg ch;have am: ∀ {o:Nat} {v:Value},w.cell? ⟨g,o,none⟩=some v→I.cell? ⟨g,o,none⟩=some v:=fun cj=>(L.Qe.cell (p:=⟨g,_,none⟩) al).trans cj
    have dI:=am ca;have c0:=am cb;have dJ:=am cc;have dK:=am cd;have dL:=am ce;have dM:=am cf;have dN:=am cg;have dO:=am ch;unfold sv at c0;have dP:g<I.heap.size:=DP al L.Qe.size;clear ca cb cc cd ce cf cg ch L;gi_wp2_with (gi_at_call 18;refine(TL W (n-1) dy a1 _ _ _ _).mono ?_;rintro e w' ⟨rfl,rfl⟩)
    have c1:=World.grownBy_alloc I (.cells #[.int .i64 h.kind,.string ⟨h.name.toArray⟩,.bool h.A5,.slice aG h.AY.length aH,.slice aI h.words.length aJ,.slice aK h.AK.length c3,.slice aL h.AS.length c4,.slice N h.kids.length ab] 32) none;have bN:=Y.new I 32 #[.int .i64 h.kind,.string ⟨h.name.toArray⟩,.bool h.A5,.slice aG h.AY.length aH,.slice aI h.words.length aJ,.slice aK h.AK.length c3,.slice aL h.AS.length c4,.slice N h.kids.length ab];have ck:=au.out.alloc (.cells #[.int .i64 h.kind,.string ⟨h.name.toArray⟩,.bool h.A5,.slice aG h.AY.length aH,.slice aI h.words.length aJ,.slice aK h.AK.length c3,.slice aL h.AS.length c4,.slice N h.kids.length ab] 32);obtain⟨aM,cl⟩: ∃aM,I.alloc (.cells #[.int .i64 h.kind,.string ⟨h.name.toArray⟩,.bool h.A5,.slice aG h.AY.length aH,.slice aI h.words.length aJ,.slice aK h.AK.length c3,.slice aL h.AS.length c4,.slice N h.kids.length ab] 32)=aM:=⟨_,rfl⟩;rw[cl]at c1 bN ck⊢;have cm:aM.heap.size=I.heap.size+1:=(by rw[←cl,World.size_alloc]);have cn:=World.grownBy_alloc aM (.cells #[.int .i64 i] 3) none;have aS:=Y.new aM 3 #[.int .i64 i];have co:=ck.alloc (.cells #[.int .i64 i] 3);obtain⟨aN,cp⟩: ∃aN,aM.alloc (.cells #[.int .i64 i] 3)=aN:=⟨_,rfl⟩;rw[cp]at cn aS co⊢;have cq:aN.heap.size=I.heap.size+1+1:=(by rw[←cp,World.size_alloc,cm]);have bO:=World.grownBy_alloc aN (.cells #[.slice N h.kids.length ab] 30) none;have aT:=Y.new aN 30 #[.slice N h.kids.length ab];have bP:=co.alloc (.cells #[.slice N h.kids.length ab] 30);obtain⟨ap,cr⟩: ∃ap,aN.alloc (.cells #[.slice N h.kids.length ab] 30)=ap:=⟨_,rfl⟩;rw[cr]at bO aT bP⊢;have c2:ap.heap.size=I.heap.size+1+1+1:=(by rw[←cr,World.size_alloc,cq]);rw[cm]at aS;rw[cq]at aT;obtain⟨aw,bQ⟩: ∃aU,I.heap.size=aU:=⟨_,rfl⟩;obtain⟨M,bR⟩: ∃aU,I.heap.size+1=aU:=⟨_,rfl⟩;obtain⟨bS,bT⟩: ∃aU,I.heap.size+1+1=aU:=⟨_,rfl⟩;rw[bT]at aT;rw[bR]at aS;rw[bQ]at bN;rw[bT,bR,bQ];have c5:=Y.grown (Y.grown bN cn (by simp)) bO (by simp);have c6:=Y.grown aS bO (by simp);have eD:=au.out.Qe.size;have dQ:0<h.kids.length→ ∃g ak,N=some ⟨g,ak,none⟩∧g≠M∧g<ap.heap.size∧ ∀j,j<h.kids.length→ap.cell? ⟨g,ak+j,none⟩=some (.int .i64 (h.kids[j]?.getD 0)):=by
     intro bU;obtain⟨eE,eF,cs,_,_,aq⟩:=bM.kids.now;injection cs with cs _ _;obtain⟨c7,c8,dR,dS,dT⟩:=aq bU;refine⟨c7,c8,cs.trans dR,by omega,by omega,fun j J=>?_⟩;have:=dT j (.int .i64 h.kids[j]) (by simp[J]);rw[bP.Qe.cell (p:=⟨c7,c8+j,none⟩) dS,this,List.getElem?_eq_getElem J];rfl
    have dU:h.kids.length≤9223372036854775807:=by
     obtain⟨_,_,_,_,aq,_⟩:=bM.kids.now;exact aq
    have bV: ∀D∈aa,D<ap.heap.size:=fun D ax=>by
     have:=(Array.getElem?_eq_some_iff.1 (au.out.ds D ax)).1;omega
    have eG:=au.out.lo;have dV:=Ly au.out.res;have dW:=Ly au.out.gb;have eH:K<I.heap.size:=Ly (au.out.row i aF);simp only[]at dV dW;have dX:=Z bP;have dY:=Z c5;have c9:=Z c6;have eI:=Z (A8 c2 (A8 bQ (A8 bR bT)));have dZ:M≠R:=(by omega);have d0:M≠X:=(by omega);have d1:M≠K:=(by omega);have d2:M≠aw:=(by omega);have d3:w.heap.size≤M:=(by omega);have c':w.heap.size≤ap.heap.size:=(by omega);have d4:=N7 W (n-1) cG a1 (by omega) bS M N ab h.kids dU ap (by omega) (by omega) (Y.cell aT 0) dQ;clear dI c0 dJ dK dL dM dN dO dP c1 cn bO bN aS aT ck co bP c5 c6 cm cq c2 cl cp cr bQ bR bT am;have da: ∀pre x,EP F (h.kind==14) ((pre++[x]).map Prod.snd) i=match EP F (h.kind==14) (pre.map (Prod.snd:Nat×Int→Int)) i with
      |some f=>EP F (h.kind==14) [x.2] f
      |none=>none:=fun pre x=>by rw[List.map_append,I1];rfl
    have d5:=Z da;have ct:=Z cZ;clear da cZ;refine wpIn_rangeFunc_ownG a1 b0 (gf:=51) (lb:=#[.pointer (some ⟨bS,0,none⟩)]) rfl cG (enters_of Tryz.func51 (by kernel_rfl) rfl)
     d4 KC.trans (fun ac lb o d6 eJ L cj _ p v bU d7=>cell_kept d7 (grownBy_putObj' ac lb d6) (fun r e=>by cases e;exact⟨_,L,cj⟩)) (Below.refl _ _) (fun _=>rfl)
     (fun pre ac=> ∃f:Nat,EP F (h.kind==14) (pre.map Prod.snd) i=some f∧ac.cell? ⟨M,0,none⟩=some (.int .i64 f)∧ac.frozen? ⟨M,0,none⟩=false∧ac.cell? ⟨aw,0,none⟩=some (.int .i64 h.kind)∧Nk w ac R X K l.length F aa)
     (fun c pre ac=>c=.ret∧EP F (h.kind==14) (pre.map Prod.snd) i=none∧Nk w ac R X K l.length F aa)
     (fun s A B row hs al aj=>by
      obtain⟨f,b0,aV,cu,d8,aq⟩:=hs;have cv: ∀r,row=some r→ ∃o:Obj,A.heap[r]? =some o∧o.isCells=false:=fun r e=>(aj r e).2
      exact⟨f,b0,cell_kept aV al cv,(frozen_kept aV al cv).trans cu,cell_kept d8 al cv,aq.kept c' bV al aj⟩)
     (fun c s A B row hs al aj=>⟨hs.1,hs.2.1,hs.2.2.kept c' bV al aj⟩)
     ⟨i,rfl,Y.cell c9.out 0,Y.frozen c9.out 0,Y.cell dY.out 0,dX.out⟩
     (fun x=> { tmps:=#[.slice (some ⟨g,ak,none⟩) l.length aB,a4,.pointer (some ⟨R,0,none⟩),.pointer (some ⟨X,0,none⟩),.int .i64 i,.pointer (some ⟨aw,0,none⟩),.pointer (some ⟨M,0,none⟩),a5,.int .i64 x.2,a6,a7,a8,a9,a',ba,bb,bc,bd,be,bf,.slice (some ⟨g,ak,none⟩) l.length aB,.int .i64 l.length,.int .i64 i,.bool true,.int .i64 i,.pointer (some ⟨g,ak+i*8,none⟩),.agg #[.int .i64 h.kind,.string ⟨h.name.toArray⟩,.bool h.A5,.slice aG h.AY.length aH,.slice aI h.words.length aJ,.slice aK h.AK.length c3,.slice aL h.AS.length c4,.slice N h.kids.length ab],.int .i64 i,.pointer (some ⟨aw,7,none⟩),.slice N h.kids.length ab,.func (.func 51) #[] #[.pointer (some ⟨bS,0,none⟩)],.int .i64 (x.1:Int),.int .i64 x.2,bg,bh,bi,bj,bk,bl,bm,bn,bo,bp,bq,br,bs,bt,bu,bv,bw,bx,bz,bA,bB,bC,bD,bE,bF,bG,bH,bI,bJ,bK,bL],defers:=[] }) ?assign ?body ?done ?stop
    case assign=>
     intro d9 x ad eK d';gi_wp2
     exact d'
    case body=>
     rintro d9 pre x ad ⟨f,an,bW,cw,cx,G⟩ _;have db:f≤i:=by
      have:=(I0 (c:=h.kind==14) (fun j J=>ct.out j (by rw[ag]at J;exact J)) (pre.map Prod.snd) i f (by rw[ag];exact BL _) an).1;exact this
     have cy:=d5.out pre x;rw[an]at cy;have dc:EP F (h.kind==14) ((pre++[x]).map Prod.snd) i=if x.2= -1∧(h.kind==14)=true then some f else if f=0∨x.2≠(f:Int)-1 then none else some (F.getD (f-1) 0):=cy
     have eL:=Z an;have cz:=Z G;have cA:=Z dc;have dd:=G.gb;have de:=G.res;have ea:=G.Mn;have eb:=G.row;have eM:(f:Int)≤300:=(by omega);clear an cy dc G;by_cases ah:x.2= -1∧h.kind=14
     ·have df:(x.2== -1)=true:=(by rw[beq_iff_eq];exact ah.1);have ec:(h.kind==14)=true:=(by rw[beq_iff_eq];exact ah.2);have dg:=Z ah;clear ah;gi_wp2
      exact⟨KeepsFrom.refl _ _,KC.refl _ _,f,by rw[cA.out,Ah ⟨dg.out.1,by rw[beq_iff_eq];exact dg.out.2⟩],bW,cw,cx,cz.out⟩
     ·have bX: ¬(x.2= -1∧(h.kind==14)=true):=fun e=>ah ⟨e.1,eq_of_beq e.2⟩
      by_cases ae:f=0∨x.2≠(f:Int)-1
      ·have cB:=cA.out;rw[U bX,Ah ae]at cB;have dh:=Z cB;have aW: ∀v:Value,v=.bool false→Nk w (ad.setCell ⟨R,0,none⟩ v) R X K l.length F aa:=by
        rintro v rfl;have z:=cz.out;exact⟨by rw[World.cell?_setCell_far _ _ _ _ z.lo.2.2.2.1];exact z.gb,fun j J=>by rw[World.cell?_setCell_far _ _ _ _ z.lo.2.2.2.2.1];exact z.row j J,fun j J=>by rw[World.frozen?_setCell];exact z.Py j J,World.cell?_setCell_same' _ _ _ (by rw[z.res];rfl),by rw[World.frozen?_setCell];exact z.Mn,fun D ax=>(KeepsOthers.setCell ad ⟨R,0,none⟩ _).same D _ (z.ds D ax) rfl,z.WG,z.nd,z.Qe.setCell (p:=⟨R,0,none⟩) z.lo.1 _,z.lo⟩
       have bY:=Z aW;clear cB aW;have ed:(x.2== -1&&h.kind==14)=false:=by
        exact Z1s
       have ee:((f:Int)==0||x.2 !=(f:Int)-1)=true:=by
        rw[Bool.or_eq_true];rcases ae with ae|ae
        ·left;rw[ae];rfl
        ·right;rw[bne,Ba ae];rfl
       have ef:=Z ah;clear ah bX;by_cases ay:x.2= -1
       ·have df:(x.2== -1)=true:=(by rw[beq_iff_eq];exact ay);have ec:(h.kind==14)=false:=(by rw[beq_eq_false_iff_ne];exact fun e=>ef.out ⟨ay,e⟩);exact Z1r
       ·have df:(x.2== -1)=false:=(by rw[beq_eq_false_iff_ne];exact ay);exact Z1r
      ·have eh:f≠0:=fun e=>ae (.inl e)
       have di:x.2=(f:Int)-1:=Classical.byContradiction fun e=>ae (.inr e)
       have cC:=cA.out;rw[U bX,U ae]at cC;have cD:=Z cC;obtain⟨m,rfl⟩: ∃m,f=m+1:=⟨f-1,by omega⟩;have ed:(x.2== -1&&h.kind==14)=false:=by
        exact Z1s
       have ee:(((m+1:Nat):Int)==0||x.2 !=((m+1:Nat):Int)-1)=false:=by
        rw[Bool.or_eq_false_iff];refine⟨by rw[beq_eq_false_iff_ne];omega,?_⟩;rw[bne,←di,beq_self_eq_true];rfl
       have eN:x.2=(m:Int):=(by omega);have eO:(0:Int)≤m∧(m:Int)<(l.length:Int):=(by omega);have ei:=eb m (by omega);have dj:F.getD (m+1-1) 0=F.getD m 0:=rfl;rw[dj]at cD;obtain⟨O,aX⟩: ∃O,F.getD m 0=O:=⟨_,rfl⟩;rw[aX]at ei cD;have aW:Nk w (ad.setCell ⟨M,0,none⟩ (.int .i64 O)) R X K l.length F aa:=cz.out.Xr dZ d0 d1 d3 bW _;have bY:=Z aW;have dk:KC M ad (ad.setCell ⟨M,0,none⟩ (.int .i64 O)):=fun p v bU aR=>by rw[World.cell?_setCell_far _ _ _ _ (fun e=>bU e.symm)];exact aR
       have ej:=Z dk;have aq:(ad.setCell ⟨M,0,none⟩ (.int .i64 O)).cell? ⟨aw,0,none⟩=some (.int .i64 h.kind):=(by rw[World.cell?_setCell_far _ _ _ _ d2];exact cx);have ek:=Z aq;clear cC dj aX aW dk aq ae ah bX eh di;gi_wp2
       exact⟨(KeepsOthers.setCell _ _ _).from _,ej.out,O,cD.out,World.cell?_setCell_same' _ _ _ (by rw[bW];rfl),by rw[World.frozen?_setCell];exact cw,ek.out,bY.out⟩
    case done=>
     rintro D eP ad ax rfl ⟨f,an,bW,cw,cx,G⟩ cE;rw[JZ _ _ (BL _),List.take_of_length_le (by rw[List.length_reverse];exact BL _)]at an;have db:f≤i:=(I0 (c:=h.kind==14) (fun j J=>ct.out j (by rw[ag]at J;exact J)) _ i f (by rw[ag];exact BL _) an).1;have dd:=G.gb;have cF:=G.row i aF;have eQ:=G.Py i aF;have dl:Nk w (ad.setCell ⟨K,i,none⟩ (.int .i64 f)) R X K l.length (F++[f]) (D::aa):=by
      refine⟨by rw[World.cell?_setCell_far _ _ _ _ (fun e=>G.lo.2.2.2.2.2 e.symm)];exact G.gb,fun j J=>?_,fun j J=>by rw[World.frozen?_setCell];exact G.Py j J,by rw[World.cell?_setCell_far _ _ _ _ (fun e=>G.lo.2.2.2.2.1 e.symm)];exact G.res,by rw[World.frozen?_setCell];exact G.Mn,fun ar af=>?_,fun ar af=>?_,?_,G.Qe.setCell (p:=⟨K,i,none⟩) G.lo.2.2.1 _,G.lo⟩
      ·by_cases dm:j=i
       ·subst dm;rw[World.cell?_setCell_same' _ _ _ (by rw[cF];rfl),List.getD_eq_getElem?_getD,List.getElem?_append_right (by omega),ag,Nat.sub_self];rfl
       ·have aY:(⟨K,i,none⟩:Addr)≠⟨K,j,none⟩:=fun e=>dm (by injection e with _ e _;exact e.symm)
        first|rw[World.cell?_setCell_other aY]|rw[World.cell?_setCell_other _ aY]|rw[World.cell?_setCell_other _ _ aY]|rw[World.cell?_setCell_other _ _ _ aY]|rw[World.cell?_setCell_other _ _ _ _ aY]
        rw[G.row j J];rw[List.getD_eq_getElem?_getD,List.getD_eq_getElem?_getD];rcases Nat.lt_or_ge j i with z|z
        ·rw[List.getElem?_append_left (by omega)]
        ·rw[List.getElem?_eq_none (by omega),List.getElem?_eq_none (by rw[BE,Cd];omega)]
      ·refine(KeepsOthers.setCell ad ⟨K,i,none⟩ _).same ar _ ?_ rfl;rw[List.mem_cons]at af;rcases af with rfl|z
       ·exact cE
       ·exact G.ds ar z
      ·rw[List.mem_cons]at af;rcases af with rfl|z
       ·omega
       ·exact G.WG ar z
      ·rw[List.nodup_cons];exact⟨fun z=>by have:=bV D z;omega,G.nd⟩
     have el:=Z dl;have dn:FX (l.take (i+1)) []=some (F++[f]):=by
      rw[List.take_succ_eq_append_getElem aF,Gx,b'.out,ci];show(match EP F (h.kind==14) h.kids.reverse F.length with|some b=>FX [] (F++[b])|none=>none)=_;rw[ag,an];rfl
     have em:=Z dn;have dp: ∀j,j<i+1→(F++[f]).getD j 0≤j:=by
      intro j J;rw[List.getD_eq_getElem?_getD];rcases Nat.lt_or_ge j i with z|z
      ·rw[List.getElem?_append_left (by omega),←List.getD_eq_getElem?_getD];exact ct.out j z
      ·obtain rfl:j=i:=by omega
       rw[List.getElem?_append_right (by omega),ag,Nat.sub_self];exact db
     have en:=Z dp;clear an dl dn dp G;gi_wp2
     refine⟨⟨i+1,F++[f],D::aa,?_⟩,?_⟩
     ·(repeat apply Exists.intro)
      refine⟨?_,by omega,by rw[BE,ag];rfl,em.out,en.out,el.out⟩;rw[show((i+1:Nat):Int)=(i:Int)+1 from by omega];rfl
     ·simp[intOf];omega
    case stop=>
     rintro D c pre ad ax ⟨k,hk,rfl⟩ ⟨rfl,dq,G⟩ cE;have dr:D7 l=false:=by
      unfold D7;have eo:EP F (h.kind==14) h.kids.reverse i=none:=by
       rw[←List.take_append_drop k h.kids.reverse,I1];rw[JZ _ _ hk]at dq;rw[dq]
      have:FX l []=none:=by
       rw[←List.take_append_drop i l,Gx,b'.out,List.drop_eq_getElem_cons aF,ci];show(match EP F (h.kind==14) h.kids.reverse F.length with|some b=>FX _ (F++[b])|none=>none)=_;rw[ag,eo]
      rw[this];simp
     have dt:=I3 W n R #[.slice (some ⟨g,ak,none⟩) l.length aB,a4,.pointer (some ⟨R,0,none⟩),.pointer (some ⟨X,0,none⟩),.int .i64 i,.pointer (some ⟨aw,0,none⟩),.pointer (some ⟨M,0,none⟩),a5,b7,a6,a7,a8,a9,a',ba,bb,bc,bd,be,bf,.slice (some ⟨g,ak,none⟩) l.length aB,.int .i64 l.length,.int .i64 i,.bool true,.int .i64 i,.pointer (some ⟨g,ak+i*8,none⟩),.agg #[.int .i64 h.kind,.string ⟨h.name.toArray⟩,.bool h.A5,.slice aG h.AY.length aH,.slice aI h.words.length aJ,.slice aK h.AK.length c3,.slice aL h.AS.length c4,.slice N h.kids.length ab],.int .i64 i,.pointer (some ⟨aw,7,none⟩),.slice N h.kids.length ab,.func (.func 51) #[] #[.pointer (some ⟨bS,0,none⟩)],b8,b9,bg,bh,bi,bj,bk,bl,bm,bn,bo,bp,bq,br,bs,bt,bu,bv,bw,bx,bz,bA,bB,bC,bD,bE,bF,bG,bH,bI,bJ,bK,bL] rfl (D7 l) w (D::aa) ad (by rw[dr];exact G.res) (fun ar af=>by
      rw[List.mem_cons]at af;rcases af with rfl|z
      ·exact cE
      ·exact G.ds ar z) (by rw[List.nodup_cons];exact⟨fun z=>by have:=bV D z;omega,G.nd⟩) (fun ar af=>by
      rw[List.mem_cons]at af;rcases af with rfl|z
      ·omega
      ·exact G.WG ar z) G.Qe
     have du:=Z dt;clear dt dr;gi_wp2
     first|exact du.out|(have aZ:=du.out;rw[a3]at aZ;exact aZ)
   ·obtain rfl:i=l.length:=by omega
    have dG:decide ((l.length:Int)<(l.length:Int))=false:=Aq (by omega);obtain⟨ai,dv⟩: ∃ai,l.length=ai+1:=⟨l.length-1,by omega⟩;have eR:(l.length:Int)-1=(ai:Int):=(by omega);have eS:(0:Int)≤ai∧(ai:Int)<(l.length:Int):=(by omega);have dd:=L.gb;have cF:=L.row ai (by omega);have de:=L.res;have ea:=L.Mn;have az:D7 l=(((F.getD ai 0:Nat):Int)==0):=by
     have aV:=b'.out;rw[List.take_length]at aV;unfold D7;rw[aV,At cI.1,At cI.2];show(true&&true&&(F.getLastD 1==0))=_;have cu:F.getLastD 1=F.getD ai 0:=by
      rw[List.getLastD_eq_getLast?,List.getLast?_eq_getElem?,ag,dv,Nat.add_sub_cancel,List.getD_eq_getElem?_getD];rw[List.getElem?_eq_getElem (by omega)];rfl
     rw[cu];generalize F.getD ai 0=O;cases O with
     |zero=>rfl
     |succ O=>
      symm
      show(((O+1:Nat):Int)==0)=false;rw[beq_eq_false_iff_ne];omega
    obtain⟨O,aX⟩: ∃O,F.getD ai 0=O:=⟨_,rfl⟩;rw[aX]at cF az;obtain⟨r,aj⟩: ∃r,((O:Int)==0)=r:=⟨_,rfl⟩;rw[aj]at az;have a0: ∀tmps:Array Value,tmps.getD 2 undef=.pointer (some ⟨R,0,none⟩)→LeavesInM W n Tryz.prog Tryz.f9 tmps (fun e w'=>e=.returned (.bool (D7 l))∧Below w.heap.size w w') (aa.map Xh) .returning (I.setCell ⟨R,0,none⟩ (.bool r)):=by
     intro tmps bZ;rw[az];refine I3 W n R tmps bZ r w aa _ (World.cell?_setCell_same' _ _ _ (by rw[de];rfl)) (fun D ax=>(KeepsOthers.setCell I ⟨R,0,none⟩ _).same D _ (L.ds D ax) rfl) L.nd L.WG (L.Qe.setCell (p:=⟨R,0,none⟩) L.lo.1 _)
    have aA:=Z a0;clear a0 az aX dv L;gi_wp2
    first|exact aA.out _ rfl|(have aZ:=aA.out _ rfl;rw[a3]at aZ;exact aZ)
 ·have az:D7 l=false:=by
   unfold D7;rcases Nat.lt_or_ge 300 l.length with z|z
   ·rw[Aq (p:=l.length≤300) (by omega)];simp
   ·rw[Aq (p:=1≤l.length) (by omega)];simp
  have ao:=Y.new w 4 #[.bool false];have aC:=World.grownBy_alloc w (.cells #[.bool false] 4) none;have a0: ∀tmps:Array Value,tmps.getD 2 undef=.pointer (some ⟨w.heap.size,0,none⟩)→ ∀ac,ac=(w.alloc (.cells #[.bool false] 4)).setCell ⟨w.heap.size,0,none⟩ (.bool false)∨ac=w.alloc (.cells #[.bool false] 4)→LeavesInM W n Tryz.prog Tryz.f9 tmps (fun e w'=>e=.returned (.bool (D7 l))∧Below w.heap.size w w') [] .returning ac:=by
   intro tmps bZ ac ep;rw[az];have dw:=DC aC (BL _);rcases ep with rfl|rfl
   ·exact I3 W n w.heap.size tmps bZ false w [] _ (World.cell?_setCell_same' _ _ _ (by rw[Y.cell ao 0];rfl)) (fun _ z=>(by cases z)) List.nodup_nil (fun _ z=>(by cases z)) (dw.setCell (p:=⟨w.heap.size,0,none⟩) (BL _) _)
   ·exact I3 W n w.heap.size tmps bZ false w [] _ (Y.cell ao 0) (fun _ z=>(by cases z)) List.nodup_nil (fun _ z=>(by cases z)) dw
  have aA:=Z a0;clear a0 az ao aC;by_cases eT:300<l.length
  ·have cJ:decide ((l.length:Int)<1)=false:=Aq (by omega);have dz:decide ((300:Int)<(l.length:Int))=true:=At (by omega);exact Z1t
  ·have cJ:decide ((l.length:Int)<1)=true:=At (by omega);exact Z1t
theorem Pd (n0:Nat) (l:List V) (v:Value) (w:World) (h:DZ n0 w v l):Calls Tryz.prog 9 #[v] w fun e w'=>e=.returned (.bool (D7 l))∧w.grownBy w' none:=by
 refine Calls.mono ((callsIn_wide (n:=4)).1 (R6 _ 4 trivial trivial trivial rfl (BL _) n0 l v w h)) ?_;rintro e w' ⟨rfl,z⟩;exact⟨rfl,E9 z⟩
end
end Go.Proofs.YtdhfhphbkfgamaaGreat
