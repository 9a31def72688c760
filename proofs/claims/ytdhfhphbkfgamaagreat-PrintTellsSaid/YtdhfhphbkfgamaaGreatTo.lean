/- A part. -/
import Derived.RangeFuncNested
import Derived.RangeFuncBound
import Derived.RangeFuncCalls
import Derived.RangeFuncLeaves
import Derived.RangeFuncBox
import Derived.RangeFuncWrites
import Derived.Shelf.Abstract
import Derived.OwnWalkIn
import Derived.TacticsInMore
import Derived.LoopNIn
import Derived.LoopIn
import Derived.Test.YtdhfhphbkfgamaaGreatTl
set_option maxRecDepth 100000
set_option linter.all false
set_option maxHeartbeats 0
namespace Go.Proofs.YtdhfhphbkfgamaaGreat
open Go.RowKit Lx Go.Shelf Proofs.Tryz
theorem Oy:prog.cellsOf 5=1:=by kernel_rfl
theorem Ms(h:World)(q:Option Addr):(Builtin.unsafeString_ #[59,3] 9 #[.pointer q,.int .i64 0]).run prog h=.ok (.string .empty) h:=Lib.run_unsafeString_none h _ _ _ q
theorem SN(B h:Nat)(v p:Value)(w:World)(z:Y w h 41 #[v,p,.slice none 0 0]):
  Calls prog 11 #[C3 h] w fun e w'=>e=.returned (.string ⟨#[]⟩)/\Below B w w':=by
 have F:=Ms;have G:w.drew.cell? ⟨h,2,none⟩=some (.slice none 0 0):=Y.cell z 2;have I:(Builtin.unsafeSliceData_ #[37] 59 #[.slice none 0 0]).run prog w.drew=.ok (.pointer none) w.drew:=rfl;clear z;have J:prog.follows .mixedOrders=true:=(by kernel_rfl);unfold C3;go_enter func11,ntmps11;go_wp2
 go_region_o;all_goals(go_wp2;go_ret;exact⟨rfl,Below.drew (Below.refl B w)⟩)
theorem NF(B h g:Nat)(v p:Value)(F:Array Value)(w:World)(I:B<=w.heap.size)(z:Y w h 41 #[v,p,.slice (some ⟨g,0,none⟩) 0 0])(G:w.heap[g]? =some (.cells F 5 (0,0))):
  Calls prog 11 #[C3 h] w fun e w'=>e=.returned (.string ⟨#[]⟩)/\Below B w w':=by
 have N:=Ms;have J:=Y.lt z;have K:w.drew.cell? ⟨h,2,none⟩=some (.slice (some ⟨g,0,none⟩) 0 0):=Y.cell z 2;have O:(Builtin.unsafeSliceData_ #[37] 59 #[.slice (some ⟨g,0,none⟩) 0 0]).run prog w.drew=.ok (.pointer (some ⟨w.drew.heap.size,0,none⟩)) (w.drew.alloc (.view ⟨g,0,none⟩ 5)):=
  Lib.run_unsafeSliceData_zero w.drew _ _ 5 underlying59 ⟨g,0,none⟩ 0 (5,F.size) (by have L:w.drew.heap[g]? =some (.cells F 5 (0,0)):=G;simp[World.shape?,L])
 have M:(w.drew.alloc (.view ⟨g,0,none⟩ 5)).cell? ⟨h,2,none⟩=some (.slice (some ⟨g,0,none⟩) 0 0):=by
  have:(w.drew.alloc (.view ⟨g,0,none⟩ 5)).heap[h]? =_:=(Lib.alloc_old w.drew _ h J).trans z;rw[Lib.cell_of_heap this];rfl
 have c3:(w.alloc (.view ⟨g,0,none⟩ 5)).drew.cell? ⟨h,2,none⟩=some (.slice (some ⟨g,0,none⟩) 0 0):=M;have W:w.cell? ⟨h,2,none⟩=some (.slice (some ⟨g,0,none⟩) 0 0):=K;clear z G;have X:prog.follows .mixedOrders=true:=(by kernel_rfl);unfold C3;go_enter func11,ntmps11;go_wp2
 go_region_o;all_goals(go_wp2;go_ret;exact⟨rfl,(Below.drew (Below.refl B w)).alloc I _⟩)
theorem Qy(B z g h:Nat)(v p:Value)(w:World)(F:h≠0)(G:Y w z 41 #[v,p,.slice (some ⟨g,0,none⟩) 0 h]):
  Calls prog 11 #[C3 z] w fun e w'=>e=.returned (.string ⟨#[]⟩)/\Below B w w':=by
 have I:=Ms;have J:w.drew.cell? ⟨z,2,none⟩=some (.slice (some ⟨g,0,none⟩) 0 h):=Y.cell G 2;have K:(Builtin.unsafeSliceData_ #[37] 59 #[.slice (some ⟨g,0,none⟩) 0 h]).run prog w.drew=.ok (.pointer (some ⟨g,0,none⟩)) w.drew:=
  Lib.run_unsafeSliceData_row _ _ _ _ _ _ F
 clear G F;have L:prog.follows .mixedOrders=true:=(by kernel_rfl);unfold C3;go_enter func11,ntmps11;go_wp2
 go_region_o;all_goals(go_wp2;go_ret;exact⟨rfl,Below.drew (Below.refl B w)⟩)
theorem Qm(B F:Nat)(v p J:Value)(l:List UInt8)(w:World)(G:Fe B w F v p J l)(K:l≠[]):
  Calls prog 11 #[C3 F] w fun e w'=>e=.returned (.string ⟨l.toArray⟩)/\Below B w w':=by
 have I:=G.own;have L:=G.BF;have M:l.length≠0:=(by simpa using K);obtain⟨g,h,z,rfl,N,O,ac,W,ad,ae⟩:∃g h z,J=.slice (some ⟨g,0,none⟩) l.length h/\B<=g/\w.heap[g]? =some (.cells z 5 (0,0))/\l.length<=h/\h<=maxLen/\z.size=h*1/\z.toList.take (l.length*1)=Lib.byteCells l:=by
  rcases I.2 with⟨_,X⟩|⟨g,h,z,aa,r⟩
  ·exact Aj X M
  ·exact⟨g,h,z,aa,r⟩
 have af:w.drew.cell? ⟨F,2,none⟩=some (.slice (some ⟨g,0,none⟩) l.length h):=Y.cell L 2;have ag:(Builtin.unsafeSliceData_ #[37] 59 #[.slice (some ⟨g,0,none⟩) l.length h]).run prog w.drew=.ok (.pointer (some ⟨g,0,none⟩)) w.drew:=
  Lib.run_unsafeSliceData_row _ _ _ _ _ _ (by omega)
 have ah:(Builtin.unsafeString_ #[59,3] 9 #[.pointer (some ⟨g,0,none⟩),.int .i64 l.length]).run prog w.drew=.ok (.string ⟨l.toArray⟩) (w.drew.freeze ⟨g,0,none⟩ l.length):=by
  refine Lib.run_unsafeString_row w.drew 59 3 9 5 underlying59 Oy g z.size (by have ab:w.drew.heap[g]? =some (.cells z 5 (0,0)):=O;simp[World.shape?,ab]) l K (by omega) (by unfold maxLen at W;omega) ?_;intro j x hx;have:=I.cells (g:=g) rfl j (.int .u8 x.toNat) (by simp[Lib.byteCells,hx]);exact this
 clear I L G;have ai:prog.follows .mixedOrders=true:=(by kernel_rfl);unfold C3;go_enter func11,ntmps11;go_wp2
 go_region_o;all_goals(go_wp2;go_ret;exact⟨rfl,Lib.below_freeze (Below.drew (Below.refl B w)) (p:=⟨g,0,none⟩) N _⟩)
theorem S5(B h:Nat)(l:List V)(b:List UInt8)(w:World)(K:CC B w h l b):Calls prog 11 #[C3 h] w fun e w'=>e=.returned (sv b)/\Below B w w':=by
 obtain⟨v,p,L,z,_,_,_⟩:=K;by_cases G:b=[]
 ·subst G;have F:=z.BF;have M:=z.lt;rcases z.own.2 with⟨rfl,_⟩|⟨g,I,N,rfl,W,O,_⟩
  ·exact SN B h v p w F
  ·by_cases J:I=0
   ·subst J;exact NF B h g v p N w M F O
   ·exact Qy B h g I v p w J F
 ·exact Qm B h v p L b w z G
theorem Ng(n0 h:Nat)(l:List V)(z:Cy l):∀f,JJ n0 h l (Ay l f) (min f l.length)
 |0=>fun i F=>by omega
 |f+1=>fun i F b w G=>QQ n0 h f l z (Ng n0 h l z f) i F b w G
attribute [local go_sem] Oper.semAt_some
def KC(h:Nat)(z F:World):Prop:=∀(p:Addr) (v:Value),p.block≠h->z.cell? p=some v->F.cell? p=some v
theorem KC.refl(z:Nat)(h:World):KC z h h:=fun _ _ _ F=>F
theorem KC.trans{h:Nat}{A B C:World}(F:KC h A B)(k:KC h B C):KC h A C:=fun p v z G=>k p v z (F p v z G)
def Kz(h:List Int)(k:Nat):List (Nat×Int):=(List.range k).map fun j=>(h.length-1-j,h[h.length-1-j]?.getD 0)
theorem MH(h:List Int)(k:Nat):Kz h (k+1)=Kz h k++[(h.length-1-k,h[h.length-1-k]?.getD 0)]:=by simp[Kz,List.range_succ]
theorem Sr(h:List Int)(k:Nat):(Kz h k).length=k:=by simp[Kz]
theorem J0(h:List Int):∀k,k<=h.length->(Kz h k).map Prod.snd=h.reverse.take k
 |0,_=>rfl
 |k+1,z=>by
  have hk:k<h.reverse.length:=(by rw[List.length_reverse];omega);rw[MH,FN,J0 h k (by omega),Du hk,List.getElem_reverse];rw[List.map_singleton,CZ (by omega)];rfl
theorem Ri(J:Fence)(n:Nat)(ad:J.fn 51)(ae:J.round=none)(ax:1<=n)(l L K:Nat)(a:Option Addr)(af:Nat)(h:List Int)(ay:h.length<=9223372036854775807)(ag:L≠K)(G X:List (Nat×Int)->World->Prop)
  (ah:∀pre x z,G pre z->pre.length<h.length->YieldAt J (n-1) prog l #[.int .i64 (x.1:Int),.int .i64 x.2] z fun e F=>
   (e=.returned (.bool true)/\G (pre++[x]) F/\KC K z F)\/(e=.returned (.bool false)/\X (pre++[x]) F))
  (z:World) (ai:z.cell? ⟨L,0,none⟩=some (.slice a h.length af)) (aj:0<h.length-> ∃g M,a=some ⟨g,M,none⟩/\g≠K/\ ∀j,j<h.length->z.cell? ⟨g,M+j,none⟩=some (.int .i64 (h[j]?.getD 0))) (ak:G [] z):
  CallsIn J n prog 51 #[.func (.yield l) #[] #[],.pointer (some ⟨L,0,none⟩)] z fun e F=>(∃v,e=.returned v)/\
   ((∃aa,aa=Kz h h.length/\G aa F)\/(∃pre,(∃k,k<=h.length/\pre=Kz h k)/\X pre F)):=by
 refine callsIn_of_wp func51 rfl ad ?_ ae;simp only[ntmps51,List.size_toArray,BR,CU,Nat.reduceAdd,Nat.reduceSub,Array.replicate_succ,Array.replicate_zero,List.push_toArray,List.append_toArray,List.nil_append,List.cons_append];gi_wp2
 gi_loopw [3] (fun i wr=> ∃k:Nat,k<=h.length/\i=.int .i64 ((h.length:Int)-1-k)/\G (Kz h k) wr/\KC K z wr)
  (fun i _=>(intOf i+1).toNat)
 case atStart=>exact⟨0,DD _,by simp,ak,KC.refl _ _⟩
 case round=>
  obtain⟨k,hk,rfl,ab,N⟩:=hrel;have az:=N _ _ ag ai;by_cases al:k<h.length
  ·obtain⟨g,M,rfl,am,an⟩:=aj (by omega);have ao:=N _ _ am (an (h.length-1-k) (by omega));obtain⟨i,O⟩:=U (h.length-1-k);have I:(h.length:Int)-1-(k:Int)=(i:Int):=(by omega);have W:=MH h k;obtain⟨fn,aA,assign,body,hy,ap⟩:=ah _ (i,h[i]?.getD 0) wr ab (by rw[Sr];exact al);dsimp only at hy
   rw[O]at ao W;rw[I];have aB:(0:Int)<=i/\(i:Int)<(h.length:Int):=(by omega);have ac:=Z W;have aq:=Z (BC O I);clear W O I;gi_wp2
   refine ap.mono ?_;rintro e aC (⟨rfl,ar,au⟩|⟨rfl,aw⟩)
   ·gi_wp2
    go_roundw;case rel=>exact⟨k+1,by omega,by have:=aq.out.2;congr 1;omega,by rw[ac.out];exact ar,N.trans au⟩
    case measure=>simp[intOf]
   ·gi_wp2
    refine bodyPost_ret (results_none rfl _ _ _) rfl ?_;exact⟨⟨_,rfl⟩,.inr ⟨_,⟨k+1,by omega,ac.out.symm⟩,aw⟩⟩
  ·obtain rfl:k=h.length:=by omega
   have I:(h.length:Int)-1-(h.length:Int)= -1:=(by omega);rw[I];gi_wp2
   go_end0
   exact⟨⟨_,rfl⟩,.inl ⟨_,rfl,ab⟩⟩
theorem UX(h:Fence)(n:Nat)(G:h.fn 18)(I:h.round=none)(a:Option Addr)(z F:Nat)(w:World):
  CallsIn h n prog 18 #[.slice a z F] w fun e w'=>e=.returned (.func (.func 51) #[] #[.pointer (some ⟨w.heap.size,0,none⟩)])/\w'=w.alloc (.cells #[.slice a z F] 30):=by
 refine callsIn_of_wp func18 rfl G ?_ I;simp only[ntmps18,List.size_toArray,BR,CU,Nat.reduceAdd,Nat.reduceSub,Array.replicate_succ,Array.replicate_zero,List.push_toArray,List.append_toArray,List.nil_append,List.cons_append];gi_wp2
 go_ret;exact⟨rfl,rfl⟩
theorem Oo(G:Fence)(n:Nat)(L:G.fn 51)(M:G.round=none)(N:1<=n)(z I:Nat)(a:Option Addr)(J:Nat)(h:List Int)(O:h.length<=9223372036854775807)(w:World)(W:z<w.heap.size)(X:z≠I)
  (aa:w.cell? ⟨z,0,none⟩=some (.slice a h.length J)) (ab:0<h.length-> ∃g F,a=some ⟨g,F,none⟩/\g≠I/\g<w.heap.size/\ ∀j,j<h.length->w.cell? ⟨g,F+j,none⟩=some (.int .i64 (h[j]?.getD 0))):
  SeqStopsK G n prog 51 #[.pointer (some ⟨z,0,none⟩)] (fun x:Nat×Int=> #[Value.int .i64 (x.1:Int),Value.int .i64 x.2]) (KC I) (fun ac=>ac=Kz h h.length) (fun pre=> ∃k,k<=h.length/\pre=Kz h k) h.length w:=fun l ad ae af K _ _ ag ah=>by
 refine Ri G n L M N l z I a J h O X ad ae ag af ((K.cell (p:=⟨z,0,none⟩) W).trans aa) (fun ai=>?_) ah;obtain⟨g,F,aj,ak,al,am⟩:=ab ai;exact⟨g,F,aj,ak,fun j an=>(K.cell (p:=⟨g,F+j,none⟩) al).trans (am j an)⟩
attribute [local go_sem] Oper.semAt_some
theorem S9{n0:Nat}{a b:World}(h:PF n0 a b)(F:n0<=a.heap.size):Below n0 a b:=
 ⟨h.os,h.tape,h.output,h.size,fun k hk=>h.block k (by omega) (fun z=>by have:=z.1;omega)⟩
theorem DI{n0:Nat}{a b:World}(h:a.grownBy b none)(z:n0<=a.heap.size):Below n0 a b:=
 ⟨h.os,h.tape,h.output,h.size,fun k hk=>h.block k (by omega) (by simp)⟩
theorem FU{a b:World}(h:Below a.heap.size a b):a.grownBy b none:=⟨h.os,h.tape,h.output,h.size,fun k hk _=>h.block k hk⟩
theorem JM(z:List Nat)(c:Bool):∀(F h:List Int) (f:Nat),Ef z c (F++h) f=match Ef z c F f with
  |some G=>Ef z c h G
  |none=>none
 |[],h,f=>rfl
 |k::r,h,f=>by
  rw[List.cons_append,Ef,Ef];split
  ·exact JM z c r h f
  ·split
   ·rfl
   ·exact JM z c r h _
theorem IP:∀(a b:List V) (h:List Nat),Fs (a++b) h=match Fs a h with
  |some z=>Fs b z
  |none=>none
 |[],b,h=>rfl
 |n::r,b,h=>by
  rw[List.cons_append,Fs,Fs];cases Ef h (n.kind==14) n.kids.reverse h.length with
  |none=>rfl
  |some x=>exact IP r b _
def YA(D:Nat):Deferred:= { target:=.collected D,args:=#[] }
structure OH(w W:World)(R Gb G N:Nat)(bs Ds:List Nat):Prop where
 gb:W.cell? ⟨Gb,0,none⟩=some (.slice (some ⟨G,0,none⟩) N N)
 row:∀j,j<N->W.cell? ⟨G,j,none⟩=some (.int .i64 (bs.getD j 0))
 Pq:∀j,j<N->W.frozen? ⟨G,j,none⟩=false
 res:W.cell? ⟨R,0,none⟩=some (.bool false)
 N0:W.frozen? ⟨R,0,none⟩=false
 ds:∀D∈Ds,W.heap[D]? =some (.deferred (some []))
 Wt:∀D∈Ds,w.heap.size<=D
 nd:Ds.Nodup
 RD:Below w.heap.size w W
 lo:w.heap.size<=R/\w.heap.size<=Gb/\w.heap.size<=G/\R≠Gb/\R≠G/\Gb≠G
theorem Ml{h:World}{p:Addr}{v:Value}(z:h.cell? p=some v):p.block<h.heap.size:=World.block_lt_of_cell? h p z
theorem OH.kept{w G L:World}{R M N O:Nat}{W J:List Nat}{row:Option Nat}{B:Nat}(h:OH w G R M N O W J)(ad:w.heap.size<=B)(ab:∀D∈J,D<B)(z:G.grownBy L row)(K:∀r,row=some r->B<=r/\ ∃o:Obj,G.heap[r]? =some o/\o.isCells=false):OH w L R M N O W J:=by
 have F:∀r,row=some r-> ∃o:Obj,G.heap[r]? =some o/\o.isCells=false:=fun r e=>(K r e).2
 refine⟨cell_kept h.gb z F,fun j I=>cell_kept (h.row j I) z F,fun j I=>(frozen_kept (h.row j I) z F).trans (h.Pq j I),cell_kept h.res z F,(frozen_kept h.res z F).trans h.N0,fun D X=>?_,h.Wt,h.nd,?_,h.lo⟩
 ·have aa:=h.ds D X;have ac:=(Array.getElem?_eq_some_iff.1 aa).1;rw[z.block D ac (fun e=>by have:=(K D e.symm).1;have:=ab D X;omega)];exact aa
 ·refine h.RD.grown z h.RD.size (fun k e=>?_);have:=(K k e).1;omega
theorem OH.alloc{w h:World}{R F G I:Nat}{J K:List Nat}(z:OH w h R F G I J K)(o:Obj):OH w (h.alloc o) R F G I J K:=
 z.kept (B:=h.heap.size) z.RD.size (fun D L=>(Array.getElem?_eq_some_iff.1 (z.ds D L)).1) (Ev h o none) (fun r e=>by cases e)
theorem OH.YP{w F:World}{R G I K:Nat}{L M:List Nat}(h:OH w F R G I K L M){z:Nat}(d1:z≠R)(d2:z≠G)(d3:z≠I)(N:w.heap.size<=z){O:Value}(X:F.cell? ⟨z,0,none⟩=some O)(v:Value):OH w (F.setCell ⟨z,0,none⟩ v) R G I K L M:=by
 refine⟨by rw[World.cell?_setCell_far _ _ _ _ d2];exact h.gb,fun j J=>by rw[World.cell?_setCell_far _ _ _ _ d3];exact h.row j J,fun j J=>by rw[World.frozen?_setCell];exact h.Pq j J,by rw[World.cell?_setCell_far _ _ _ _ d1];exact h.res,by rw[World.frozen?_setCell];exact h.N0,fun D W=>?_,h.Wt,h.nd,h.RD.setCell (p:=⟨z,0,none⟩) N v,h.lo⟩;exact(KeepsOthers.setCell F ⟨z,0,none⟩ v).same D _ (h.ds D W) rfl
theorem JR(N:Fence)(n R:Nat)(F:Array Value)(O:F.getD 2 undef=.pointer (some ⟨R,0,none⟩))(r:Bool)(w:World):∀(z:List Nat) (h:World),h.cell? ⟨R,0,none⟩=some (.bool r)->(∀D∈z,h.heap[D]? =some (.deferred (some [])))->z.Nodup->(∀D∈z,w.heap.size<=D)->Below w.heap.size w h->
  LeavesInM N n prog Tryz.f9 F (fun e w'=>e=.returned (.bool r)/\Below w.heap.size w w') (z.map YA) .returning h
 |[],h,G,_,_,_,I=>by
  refine⟨.bool r,?_,rfl,I⟩;have aa:F[2]?.getD undef=.pointer (some ⟨R,0,none⟩):=(by simpa using O);simp[results,Tryz.f9,go_sem,aa,G]
 |D::z,h,G,W,J,X,I=>by
  have K:=W D (En ..);rw[List.nodup_cons]at J;refine⟨by simp,.inl ⟨D,_,rfl,run_takeDeferred K,JR N n R F O r w z _ ?_ ?_ J.2 (fun L ab=>X L (List.mem_cons_of_mem _ ab)) ?_⟩⟩
  ·exact cell_kept G (grownBy_putObj' h D (.deferred none)) (fun r e=>by cases e;exact⟨_,K,rfl⟩)
  ·intro L M;rw[World.putObj_heap_other (fun e=>J.1 (by first|(rw[<-e];exact M)|(rw[e];exact M)))];exact W L (List.mem_cons_of_mem _ M)
  ·exact I.trans (belowK_b (w:=w) (BN _) h D _ _ (X D (En ..)) K rfl rfl)
def J8(h:Nat):Array Value:=madeCells (Value.int .i64 0).cells (h*1)
theorem We:(prog.info? 3).map (fun i=>(i.zero,i.size,i.bytes))=some (some (.int .i64 0),1,8):=by kernel_rfl
theorem OW(h j:Nat)(z:j<h):(J8 h)[j]? =some (.int .i64 0):=by
 unfold J8 madeCells;rw[Array.getElem?_map,Array.getElem?_range,Ai (by omega)];have e:(Value.int .i64 0).cells=#[.int .i64 0]:=rfl;rw[e];simp[Nat.mod_one]
theorem Sn(O:Fence)(n:Nat)(cw:O.fn 9)(cx:O.fn 18)(bU:O.fn 51)(aW:O.round=none)(du:4<=n)(n0:Nat)(l:List V)(v:Value)(w:World)(z:Dj n0 w v l):
  CallsIn O n prog 9 #[v] w fun e w'=>e=.returned (.bool (EI l))/\Below w.heap.size w w':=by
 have bg:1<=n:=(by omega);obtain⟨bV,aA,rfl,dv⟩:=z.form;have dw:(l.length:Int)<=9223372036854775807:=(by omega);refine callsIn_of_wp_marks func9 rfl cw ?_ aW;simp only[ntmps9,List.size_toArray,BR,CU,Nat.reduceAdd,Nat.reduceSub,Array.replicate_succ,Array.replicate_zero,List.push_toArray,List.append_toArray,List.nil_append,List.cons_append];by_cases bW:1<=l.length/\l.length<=300
 ·have bX:decide ((l.length:Int)<1)=false:=As (by omega);have cy:decide ((300:Int)<(l.length:Int))=false:=As (by omega);have dx:∀I:World,(Instr.makeSlice 30 (.int .i64 (l.length:Int)) (.int .i64 (l.length:Int))).run prog I=.ok (.slice (some ⟨I.heap.size,0,none⟩) l.length l.length) (I.alloc (.cells (J8 l.length) 3)):=by
   intro I;obtain⟨cz,cA,cB,cC,cD⟩:=info_parts We;have aj:=run_make (P:=prog) I 30 3 cz (.int .i64 0) (by kernel_rfl) cA cB .i64 .i64 l.length l.length (by omega) (by omega) (by rw[cD];omega) (by omega);simp only[Int.toNat_natCast]at aj;rw[aj,cC];rfl
  gi_wp2
  have aB:=Ev w (.cells #[.bool false] 4) none;have ao:=Y.new w 4 #[.bool false];obtain⟨aX,bh⟩:=U (w.alloc (.cells #[.bool false] 4));rw[bh]at aB ao⊢;have s1:aX.heap.size=w.heap.size+1:=(by rw[<-bh,BW]);have aY:=Ev aX (.cells (J8 l.length) 3) none;have aK:=Y.new aX 3 (J8 l.length);obtain⟨aZ,bi⟩:=U (aX.alloc (.cells (J8 l.length) 3));rw[bi]at aY aK⊢;have s2:aZ.heap.size=w.heap.size+1+1:=(by rw[<-bi,BW,s1]);have aL:=Ev aZ (.cells #[.slice (some ⟨w.heap.size+1,0,none⟩) l.length l.length] 30) none;have aM:=Y.new aZ 30 #[.slice (some ⟨w.heap.size+1,0,none⟩) l.length l.length];obtain⟨cE,bY⟩:=U (aZ.alloc (.cells #[.slice (some ⟨w.heap.size+1,0,none⟩) l.length l.length] 30));rw[bY]at aL aM⊢;rw[s1]at aK;rw[s2]at aM;obtain⟨R,a0⟩:=U w.heap.size;obtain⟨M,bj⟩:=U (w.heap.size+1);obtain⟨ad,bZ⟩:=U (w.heap.size+1+1);rw[bZ,bj]at aM;rw[bj]at aK;rw[a0]at ao;have bk:=Y.grown (Y.grown ao aY (by simp)) aL (by simp);have bl:=Y.grown aK aL (by simp);have b0:OH w cE R ad M l.length [] []:=by
   refine⟨Y.cell aM 0,fun j J=>?_,fun j _=>Y.frozen bl j,Y.cell bk 0,Y.frozen bk 0,fun _ z=>(by cases z),fun _ z=>(by cases z),List.nodup_nil,?_,by omega⟩
   ·rw[Y.cell bl j,OW _ _ J];rfl
   ·exact((DI aB (BN _)).trans (DI aY (by omega))).trans (DI aL (by omega))
  have cF:=Z b0;rw[bZ,bj,a0];clear aB aY aL ao aK aM bk bl bh bi bY b0;refine wpIn_loop (fun a I=> ∃(i:Nat) (F W:List Nat) (t1 t4 t5 t6 t7 t8 t9 t10 t11 t12 t13 t14 t15 t16 t17 t18 t19 t23 t24 t25 t26 t27 t28 t29 t30 t31 t32 t33 t34 t35 t36 t37 t38 t39 t40 t41 t42 t43 t44 t45 t46 t47 t48 t49 t50 t51 t52 t53 t54 t55 t56 t57 t58 t59 t60 t61 t62 t63:Value),a= { tmps:=#[.slice bV l.length aA,t1,.pointer (some ⟨R,0,none⟩),.pointer (some ⟨ad,0,none⟩),t4,t5,t6,t7,t8,t9,t10,t11,t12,t13,t14,t15,t16,t17,t18,t19,.slice bV l.length aA,.int .i64 l.length,.int .i64 i,t23,t24,t25,t26,t27,t28,t29,t30,t31,t32,t33,t34,t35,t36,t37,t38,t39,t40,t41,t42,t43,t44,t45,t46,t47,t48,t49,t50,t51,t52,t53,t54,t55,t56,t57,t58,t59,t60,t61,t62,t63],defers:=W.map YA } /\i<=l.length/\F.length=i/\Fs (l.take i) []=some F/\(∀j,j<i->F.getD j 0<=j)/\OH w I R ad M l.length F W) (fun a _=>l.length-(intOf (a.tmps.getD 22 undef)).toNat) ?start ?round;case start=>
   exact⟨0,[],[],_,_,_,_,_,_,_,_,_,_,_,_,_,_,_,_,_,_,_,_,_,_,_,_,_,_,_,_,_,_,_,_,_,_,_,_,_,_,_,_,_,_,_,_,_,_,_,_,_,_,_,_,_,_,_,_,_,_,rfl,DD _,rfl,rfl,fun j z=>by omega,cF.out⟩
  case round=>
   rintro a I ⟨i,F,W,t1,t4,t5,t6,t7,t8,t9,t10,t11,t12,t13,t14,t15,t16,t17,t18,t19,t23,t24,t25,t26,t27,t28,t29,t30,t31,t32,t33,t34,t35,t36,t37,t38,t39,t40,t41,t42,t43,t44,t45,t46,t47,t48,t49,t50,t51,t52,t53,t54,t55,t56,t57,t58,t59,t60,t61,t62,t63,rfl,dy,af,b1,b2,K⟩;have ar:=Z K;have bm:=Z b1;clear b1;by_cases aC:i<l.length
   ·have cG:decide ((i:Int)<(l.length:Int))=true:=Au (by omega);have dz:(0:Int)<=i/\(i:Int)<(l.length:Int):=(by omega);obtain⟨g,ak,dA,dB,dC,dD,dE,dF,aN,_,_,al,a1,bn,bo,bp,bq,br,bs,bt,bu⟩:=z.at_ i aC;injection aN with aN _ cH;subst aN cH;obtain⟨aD,aE,aF,aG,aH,c3,aI,c4,N,X,rfl,rfl,rfl,rfl,rfl⟩:=a1.C5;obtain⟨h,bv⟩:=U (l[i]);rw[bv]at a1 bn bo bp bq br bs bt bu;have am:∀ {o:Nat} {v:Value},w.cell? ⟨g,o,none⟩=some v->I.cell? ⟨g,o,none⟩=some v:=fun bw=>(K.RD.cell (p:=⟨g,_,none⟩) al).trans bw
    have cI:=am bn;have b3:=am bo;have cJ:=am bp;have cK:=am bq;have cL:=am br;have cM:=am bs;have cN:=am bt;have cO:=am bu;unfold sv at b3;have cP:g<I.heap.size:=DZ al K.RD.size;clear bn bo bp bq br bs bt bu K;gi_wp2_with (gi_at_call 18;refine(UX O (n-1) cx aW _ _ _ _).mono ?_;rintro e w' ⟨rfl,rfl⟩)
    have b4:=Ev I (.cells #[.int .i64 h.kind,.string ⟨h.name.toArray⟩,.bool h.A7,.slice aD h.AZ.length aE,.slice aF h.words.length aG,.slice aH h.AK.length c3,.slice aI h.AT.length c4,.slice N h.kids.length X] 32) none;have a2:=Y.new I 32 #[.int .i64 h.kind,.string ⟨h.name.toArray⟩,.bool h.A7,.slice aD h.AZ.length aE,.slice aF h.words.length aG,.slice aH h.AK.length c3,.slice aI h.AT.length c4,.slice N h.kids.length X];have bx:=ar.out.alloc (.cells #[.int .i64 h.kind,.string ⟨h.name.toArray⟩,.bool h.A7,.slice aD h.AZ.length aE,.slice aF h.words.length aG,.slice aH h.AK.length c3,.slice aI h.AT.length c4,.slice N h.kids.length X] 32);obtain⟨a3,bz⟩:=U (I.alloc (.cells #[.int .i64 h.kind,.string ⟨h.name.toArray⟩,.bool h.A7,.slice aD h.AZ.length aE,.slice aF h.words.length aG,.slice aH h.AK.length c3,.slice aI h.AT.length c4,.slice N h.kids.length X] 32));rw[bz]at b4 a2 bx⊢;have bA:a3.heap.size=I.heap.size+1:=(by rw[<-bz,BW]);have bB:=Ev a3 (.cells #[.int .i64 i] 3) none;have aO:=Y.new a3 3 #[.int .i64 i];have bC:=bx.alloc (.cells #[.int .i64 i] 3);obtain⟨a4,bD⟩:=U (a3.alloc (.cells #[.int .i64 i] 3));rw[bD]at bB aO bC⊢;have bE:a4.heap.size=I.heap.size+1+1:=(by rw[<-bD,BW,bA]);have a5:=Ev a4 (.cells #[.slice N h.kids.length X] 30) none;have aP:=Y.new a4 30 #[.slice N h.kids.length X];have a6:=bC.alloc (.cells #[.slice N h.kids.length X] 30);obtain⟨aJ,bF⟩:=U (a4.alloc (.cells #[.slice N h.kids.length X] 30));rw[bF]at a5 aP a6⊢;have b5:aJ.heap.size=I.heap.size+1+1+1:=(by rw[<-bF,BW,bE]);rw[bA]at aO;rw[bE]at aP;obtain⟨au,a7⟩:=U I.heap.size;obtain⟨L,a8⟩:=U (I.heap.size+1);obtain⟨a9,a'⟩:=U (I.heap.size+1+1);rw[a']at aP;rw[a8]at aO;rw[a7]at a2;rw[a',a8,a7];have b6:=Y.grown (Y.grown a2 bB (by simp)) a5 (by simp);have b7:=Y.grown aO a5 (by simp);have dG:=ar.out.RD.size;have cQ:0<h.kids.length-> ∃g ak,N=some ⟨g,ak,none⟩/\g≠L/\g<aJ.heap.size/\ ∀j,j<h.kids.length->aJ.cell? ⟨g,ak+j,none⟩=some (.int .i64 (h.kids[j]?.getD 0)):=by
     intro ba;obtain⟨dH,dI,bG,_,_,ap⟩:=a1.kids.now;injection bG with bG _ _;obtain⟨b8,b9,cR,cS,cT⟩:=ap ba;refine⟨b8,b9,bG.trans cR,by omega,by omega,fun j J=>?_⟩;have:=cT j (.int .i64 h.kids[j]) (by simp[J]);rw[a6.RD.cell (p:=⟨b8,b9+j,none⟩) cS,this,CZ J];rfl
    have cU:h.kids.length<=9223372036854775807:=by
     obtain⟨_,_,_,_,ap,_⟩:=a1.kids.now;exact ap
    have bb:∀D∈W,D<aJ.heap.size:=fun D aw=>by
     have:=(Array.getElem?_eq_some_iff.1 (ar.out.ds D aw)).1;omega
    have dJ:=ar.out.lo;have cV:=Ml ar.out.res;have cW:=Ml ar.out.gb;have dK:M<I.heap.size:=Ml (ar.out.row i aC);simp only[]at cV cW;have cX:=Z a6;have cY:=Z b6;have b':=Z b7;have dL:=Z (BC b5 (BC a7 (BC a8 a')));have cZ:L≠R:=(by omega);have c0:L≠ad:=(by omega);have c1:L≠M:=(by omega);have c2:L≠au:=(by omega);have c5:w.heap.size<=L:=(by omega);have ca:w.heap.size<=aJ.heap.size:=(by omega);have c6:=Oo O (n-1) bU aW (by omega) a9 L N X h.kids cU aJ (by omega) (by omega) (Y.cell aP 0) cQ;clear cI b3 cJ cK cL cM cN cO cP b4 bB a5 a2 aO aP bx bC a6 b6 b7 bA bE b5 bz bD bF a7 a8 a' am;have cb:∀pre x,Ef F (h.kind==14) ((pre++[x]).map Prod.snd) i=match Ef F (h.kind==14) (pre.map (Prod.snd:Nat×Int->Int)) i with
      |some f=>Ef F (h.kind==14) [x.2] f
      |none=>none:=fun pre x=>by rw[FN,JM];rfl
    have c7:=Z cb;have bH:=Z b2;clear cb b2;refine wpIn_rangeFunc_ownG aW bg (gf:=51) (lb:=#[.pointer (some ⟨a9,0,none⟩)]) rfl bU (enters_of func51 (by kernel_rfl) rfl)
     c6 KC.trans (fun aa lb o c8 dM K bw _ p v ba c9=>cell_kept c9 (grownBy_putObj' aa lb c8) (fun r e=>by cases e;exact⟨_,K,bw⟩)) (Below.refl _ _) (fun _=>rfl)
     (fun pre aa=> ∃f:Nat,Ef F (h.kind==14) (pre.map Prod.snd) i=some f/\aa.cell? ⟨L,0,none⟩=some (.int .i64 f)/\aa.frozen? ⟨L,0,none⟩=false/\aa.cell? ⟨au,0,none⟩=some (.int .i64 h.kind)/\OH w aa R ad M l.length F W)
     (fun c pre aa=>c=.ret/\Ef F (h.kind==14) (pre.map Prod.snd) i=none/\OH w aa R ad M l.length F W)
     (fun s A B row hs al aj=>by
      obtain⟨f,bg,aQ,bI,c',ap⟩:=hs;have bJ:∀r,row=some r-> ∃o:Obj,A.heap[r]? =some o/\o.isCells=false:=fun r e=>(aj r e).2
      exact⟨f,bg,cell_kept aQ al bJ,(frozen_kept aQ al bJ).trans bI,cell_kept c' al bJ,ap.kept ca bb al aj⟩)
     (fun c s A B row hs al aj=>⟨hs.1,hs.2.1,hs.2.2.kept ca bb al aj⟩)
     ⟨i,rfl,Y.cell b'.out 0,Y.frozen b'.out 0,Y.cell cY.out 0,cX.out⟩
     (fun x=> { tmps:=#[.slice (some ⟨g,ak,none⟩) l.length aA,t1,.pointer (some ⟨R,0,none⟩),.pointer (some ⟨ad,0,none⟩),.int .i64 i,.pointer (some ⟨au,0,none⟩),.pointer (some ⟨L,0,none⟩),t7,.int .i64 x.2,t9,t10,t11,t12,t13,t14,t15,t16,t17,t18,t19,.slice (some ⟨g,ak,none⟩) l.length aA,.int .i64 l.length,.int .i64 i,.bool true,.int .i64 i,.pointer (some ⟨g,ak+i*8,none⟩),.agg #[.int .i64 h.kind,.string ⟨h.name.toArray⟩,.bool h.A7,.slice aD h.AZ.length aE,.slice aF h.words.length aG,.slice aH h.AK.length c3,.slice aI h.AT.length c4,.slice N h.kids.length X],.int .i64 i,.pointer (some ⟨au,7,none⟩),.slice N h.kids.length X,.func (.func 51) #[] #[.pointer (some ⟨a9,0,none⟩)],.int .i64 (x.1:Int),.int .i64 x.2,t33,t34,t35,t36,t37,t38,t39,t40,t41,t42,t43,t44,t45,t46,t47,t48,t49,t50,t51,t52,t53,t54,t55,t56,t57,t58,t59,t60,t61,t62,t63],defers:=[] }) ?assign ?body ?done ?stop
    case assign=>
     intro da x ab dN db;gi_wp2
     exact db
    case body=>
     rintro da pre x ab ⟨f,an,bc,bK,bL,G⟩ _;have cc:f<=i:=by
      have:=(Jg (c:=h.kind==14) (fun j J=>bH.out j (by rw[af]at J;exact J)) (pre.map Prod.snd) i f (by rw[af];exact BN _) an).1;exact this
     have bM:=c7.out pre x;rw[an]at bM;have cd:Ef F (h.kind==14) ((pre++[x]).map Prod.snd) i=if x.2= -1/\(h.kind==14)=true then some f else if f=0\/x.2≠(f:Int)-1 then none else some (F.getD (f-1) 0):=bM
     have dO:=Z an;have bN:=Z G;have bO:=Z cd;have ce:=G.gb;have cf:=G.res;have dc:=G.N0;have dd:=G.row;have dP:(f:Int)<=300:=(by omega);clear an bM cd G;by_cases ag:x.2= -1/\h.kind=14
     ·have cg:(x.2== -1)=true:=(by rw[DQ];exact ag.1);have de:(h.kind==14)=true:=(by rw[DQ];exact ag.2);have ch:=Z ag;clear ag;gi_wp2
      exact⟨KeepsFrom.refl _ _,KC.refl _ _,f,by rw[bO.out,Ai ⟨ch.out.1,by rw[DQ];exact ch.out.2⟩],bc,bK,bL,bN.out⟩
     ·have bd:¬(x.2= -1/\(h.kind==14)=true):=fun e=>ag ⟨e.1,eq_of_beq e.2⟩
      by_cases ac:f=0\/x.2≠(f:Int)-1
      ·have bP:=bO.out;rw[AP bd,Ai ac]at bP;have ci:=Z bP;have aR:∀v:Value,v=.bool false->OH w (ab.setCell ⟨R,0,none⟩ v) R ad M l.length F W:=by
        rintro v rfl;have z:=bN.out;exact⟨by rw[World.cell?_setCell_far _ _ _ _ z.lo.2.2.2.1];exact z.gb,fun j J=>by rw[World.cell?_setCell_far _ _ _ _ z.lo.2.2.2.2.1];exact z.row j J,fun j J=>by rw[World.frozen?_setCell];exact z.Pq j J,World.cell?_setCell_same' _ _ _ (by rw[z.res];rfl),by rw[World.frozen?_setCell];exact z.N0,fun D aw=>(KeepsOthers.setCell ab ⟨R,0,none⟩ _).same D _ (z.ds D aw) rfl,z.Wt,z.nd,z.RD.setCell (p:=⟨R,0,none⟩) z.lo.1 _,z.lo⟩
       have be:=Z aR;clear bP aR;have df:(x.2== -1&&h.kind==14)=false:=by
        rw[Bool.eq_false_iff];intro z;simp only[CN,DQ]at z;exact ag z
       have dg:((f:Int)==0||x.2 !=(f:Int)-1)=true:=by
        rw[GX];rcases ac with ac|ac
        ·left;rw[ac];rfl
        ·right;rw[bne,Bd ac];rfl
       have dh:=Z ag;clear ag bd;by_cases ax:x.2= -1
       ·have cg:(x.2== -1)=true:=(by rw[DQ];exact ax);have de:(h.kind==14)=false:=(by rw[A4];exact fun e=>dh.out ⟨ax,e⟩);have di:=Z ax;clear ax ac;gi_wp2
        all_goals exact⟨(KeepsOthers.setCell _ _ _).from _,rfl,ci.out,be.out _ rfl⟩
       ·have cg:(x.2== -1)=false:=(by rw[A4];exact ax);have di:=Z ax;clear ax ac;gi_wp2
        all_goals exact⟨(KeepsOthers.setCell _ _ _).from _,rfl,ci.out,be.out _ rfl⟩
      ·have dj:f≠0:=fun e=>ac (.inl e)
       have cj:x.2=(f:Int)-1:=Classical.byContradiction fun e=>ac (.inr e)
       have bQ:=bO.out;rw[AP bd,AP ac]at bQ;have bR:=Z bQ;obtain⟨m,rfl⟩:∃m,f=m+1:=⟨f-1,by omega⟩;have df:(x.2== -1&&h.kind==14)=false:=by
        rw[Bool.eq_false_iff];intro z;simp only[CN,DQ]at z;exact ag z
       have dg:(((m+1:Nat):Int)==0||x.2 !=((m+1:Nat):Int)-1)=false:=by
        rw[Bool.or_eq_false_iff];refine⟨by rw[A4];omega,?_⟩;rw[bne,<-cj,beq_self_eq_true];rfl
       have dQ:x.2=(m:Int):=(by omega);have dR:(0:Int)<=m/\(m:Int)<(l.length:Int):=(by omega);have dk:=dd m (by omega);have ck:F.getD (m+1-1) 0=F.getD m 0:=rfl;rw[ck]at bR;obtain⟨ah,aS⟩:=U (F.getD m 0);rw[aS]at dk bR;have aR:OH w (ab.setCell ⟨L,0,none⟩ (.int .i64 ah)) R ad M l.length F W:=bN.out.YP cZ c0 c1 c5 bc _;have be:=Z aR;have cl:KC L ab (ab.setCell ⟨L,0,none⟩ (.int .i64 ah)):=fun p v ba aN=>by rw[World.cell?_setCell_far _ _ _ _ (fun e=>ba e.symm)];exact aN
       have dl:=Z cl;have ap:(ab.setCell ⟨L,0,none⟩ (.int .i64 ah)).cell? ⟨au,0,none⟩=some (.int .i64 h.kind):=(by rw[World.cell?_setCell_far _ _ _ _ c2];exact bL);have dm:=Z ap;clear bQ ck aS aR cl ap ac ag bd dj cj;gi_wp2
       exact⟨(KeepsOthers.setCell _ _ _).from _,dl.out,ah,bR.out,World.cell?_setCell_same' _ _ _ (by rw[bc];rfl),by rw[World.frozen?_setCell];exact bK,dm.out,be.out⟩
    case done=>
     rintro D dS ab aw rfl ⟨f,an,bc,bK,bL,G⟩ bS;rw[J0 _ _ (BN _),List.take_of_length_le (by rw[List.length_reverse];exact BN _)]at an;have cc:f<=i:=(Jg (c:=h.kind==14) (fun j J=>bH.out j (by rw[af]at J;exact J)) _ i f (by rw[af];exact BN _) an).1;have ce:=G.gb;have bT:=G.row i aC;have dT:=G.Pq i aC;have cm:OH w (ab.setCell ⟨M,i,none⟩ (.int .i64 f)) R ad M l.length (F++[f]) (D::W):=by
      refine⟨by rw[World.cell?_setCell_far _ _ _ _ (fun e=>G.lo.2.2.2.2.2 e.symm)];exact G.gb,fun j J=>?_,fun j J=>by rw[World.frozen?_setCell];exact G.Pq j J,by rw[World.cell?_setCell_far _ _ _ _ (fun e=>G.lo.2.2.2.2.1 e.symm)];exact G.res,by rw[World.frozen?_setCell];exact G.N0,fun aq ae=>?_,fun aq ae=>?_,?_,G.RD.setCell (p:=⟨M,i,none⟩) G.lo.2.2.1 _,G.lo⟩
      ·by_cases cn:j=i
       ·subst cn;rw[World.cell?_setCell_same' _ _ _ (by rw[bT];rfl),EK,Ig (by omega),af,Nat.sub_self];rfl
       ·have aT:(⟨M,i,none⟩:Addr)≠⟨M,j,none⟩:=fun e=>cn (by injection e with _ e _;exact e.symm)
        first|rw[World.cell?_setCell_other aT]|rw[World.cell?_setCell_other _ aT]|rw[World.cell?_setCell_other _ _ aT]|rw[World.cell?_setCell_other _ _ _ aT]|rw[World.cell?_setCell_other _ _ _ _ aT]
        rw[G.row j J];rw[EK,EK];rcases Nat.lt_or_ge j i with z|z
        ·rw[Gx (by omega)]
        ·rw[List.getElem?_eq_none (by omega),List.getElem?_eq_none (by rw[BG,Cj];omega)]
      ·refine(KeepsOthers.setCell ab ⟨M,i,none⟩ _).same aq _ ?_ rfl;rw[List.mem_cons]at ae;rcases ae with rfl|z
       ·exact bS
       ·exact G.ds aq z
      ·rw[List.mem_cons]at ae;rcases ae with rfl|z
       ·omega
       ·exact G.Wt aq z
      ·rw[List.nodup_cons];exact⟨fun z=>by have:=bb D z;omega,G.nd⟩
     have dn:=Z cm;have co:Fs (l.take (i+1)) []=some (F++[f]):=by
      rw[Du aC,IP,bm.out,bv];show(match Ef F (h.kind==14) h.kids.reverse F.length with|some b=>Fs [] (F++[b])|none=>none)=_;rw[af,an];rfl
     have dp:=Z co;have cp:∀j,j<i+1->(F++[f]).getD j 0<=j:=by
      intro j J;rw[EK];rcases Nat.lt_or_ge j i with z|z
      ·rw[Gx (by omega),<-EK];exact bH.out j z
      ·obtain rfl:j=i:=by omega
       rw[Ig (by omega),af,Nat.sub_self];exact cc
     have dq:=Z cp;clear an cm co cp G;gi_wp2
     refine⟨⟨i+1,F++[f],D::W,?_⟩,?_⟩
     ·(repeat apply Exists.intro)
      refine⟨?_,by omega,by rw[BG,af];rfl,dp.out,dq.out,dn.out⟩;rw[show((i+1:Nat):Int)=(i:Int)+1 from by omega];rfl
     ·simp[intOf];omega
    case stop=>
     rintro D c pre ab aw ⟨k,hk,rfl⟩ ⟨rfl,cq,G⟩ bS;have cr:EI l=false:=by
      unfold EI;have dr:Ef F (h.kind==14) h.kids.reverse i=none:=by
       rw[<-List.take_append_drop k h.kids.reverse,JM];rw[J0 _ _ hk]at cq;rw[cq]
      have:Fs l []=none:=by
       rw[<-List.take_append_drop i l,IP,bm.out,List.drop_eq_getElem_cons aC,bv];show(match Ef F (h.kind==14) h.kids.reverse F.length with|some b=>Fs _ (F++[b])|none=>none)=_;rw[af,dr]
      rw[this];simp
     have cs:=JR O n R #[.slice (some ⟨g,ak,none⟩) l.length aA,t1,.pointer (some ⟨R,0,none⟩),.pointer (some ⟨ad,0,none⟩),.int .i64 i,.pointer (some ⟨au,0,none⟩),.pointer (some ⟨L,0,none⟩),t7,t8,t9,t10,t11,t12,t13,t14,t15,t16,t17,t18,t19,.slice (some ⟨g,ak,none⟩) l.length aA,.int .i64 l.length,.int .i64 i,.bool true,.int .i64 i,.pointer (some ⟨g,ak+i*8,none⟩),.agg #[.int .i64 h.kind,.string ⟨h.name.toArray⟩,.bool h.A7,.slice aD h.AZ.length aE,.slice aF h.words.length aG,.slice aH h.AK.length c3,.slice aI h.AT.length c4,.slice N h.kids.length X],.int .i64 i,.pointer (some ⟨au,7,none⟩),.slice N h.kids.length X,.func (.func 51) #[] #[.pointer (some ⟨a9,0,none⟩)],t31,t32,t33,t34,t35,t36,t37,t38,t39,t40,t41,t42,t43,t44,t45,t46,t47,t48,t49,t50,t51,t52,t53,t54,t55,t56,t57,t58,t59,t60,t61,t62,t63] rfl (EI l) w (D::W) ab (by rw[cr];exact G.res) (fun aq ae=>by
      rw[List.mem_cons]at ae;rcases ae with rfl|z
      ·exact bS
      ·exact G.ds aq z) (by rw[List.nodup_cons];exact⟨fun z=>by have:=bb D z;omega,G.nd⟩) (fun aq ae=>by
      rw[List.mem_cons]at ae;rcases ae with rfl|z
      ·omega
      ·exact G.Wt aq z) G.RD
     have ct:=Z cs;clear cs cr;gi_wp2
     first|exact ct.out|(have aU:=ct.out;rw[a0]at aU;exact aU)
   ·obtain rfl:i=l.length:=by omega
    have cG:decide ((l.length:Int)<(l.length:Int))=false:=As (by omega);obtain⟨ai,cu⟩:∃ai,l.length=ai+1:=⟨l.length-1,by omega⟩;have dU:(l.length:Int)-1=(ai:Int):=(by omega);have dV:(0:Int)<=ai/\(ai:Int)<(l.length:Int):=(by omega);have ce:=K.gb;have bT:=K.row ai (by omega);have cf:=K.res;have dc:=K.N0;have ay:EI l=(((F.getD ai 0:Nat):Int)==0):=by
     have aQ:=bm.out;rw[Dw]at aQ;unfold EI;rw[aQ,Au bW.1,Au bW.2];show(true&&true&&(F.getLastD 1==0))=_;have bI:F.getLastD 1=F.getD ai 0:=by
      rw[List.getLastD_eq_getLast?,List.getLast?_eq_getElem?,af,cu,Nat.add_sub_cancel,EK];rw[CZ (by omega)];rfl
     rw[bI];generalize F.getD ai 0=ah;cases ah with
     |zero=>rfl
     |succ ah=>
      symm
      show(((ah+1:Nat):Int)==0)=false;rw[A4];omega
    obtain⟨ah,aS⟩:=U (F.getD ai 0);rw[aS]at bT ay;obtain⟨r,aj⟩:=U (((ah:Int)==0));rw[aj]at ay;have aV:∀tmps:Array Value,tmps.getD 2 undef=.pointer (some ⟨R,0,none⟩)->LeavesInM O n prog Tryz.f9 tmps (fun e w'=>e=.returned (.bool (EI l))/\Below w.heap.size w w') (W.map YA) .returning (I.setCell ⟨R,0,none⟩ (.bool r)):=by
     intro tmps bf;rw[ay];refine JR O n R tmps bf r w W _ (World.cell?_setCell_same' _ _ _ (by rw[cf];rfl)) (fun D aw=>(KeepsOthers.setCell I ⟨R,0,none⟩ _).same D _ (K.ds D aw) rfl) K.nd K.Wt (K.RD.setCell (p:=⟨R,0,none⟩) K.lo.1 _)
    have az:=Z aV;clear aV ay aS cu K;gi_wp2
    first|exact az.out _ rfl|(have aU:=az.out _ rfl;rw[a0]at aU;exact aU)
 ·have ay:EI l=false:=by
   unfold EI;rcases Nat.lt_or_ge 300 l.length with z|z
   ·rw[As (p:=l.length<=300) (by omega)];simp
   ·rw[As (p:=1<=l.length) (by omega)];simp
  have ao:=Y.new w 4 #[.bool false];have aB:=Ev w (.cells #[.bool false] 4) none;have aV:∀tmps:Array Value,tmps.getD 2 undef=.pointer (some ⟨w.heap.size,0,none⟩)-> ∀aa,aa=(w.alloc (.cells #[.bool false] 4)).setCell ⟨w.heap.size,0,none⟩ (.bool false)\/aa=w.alloc (.cells #[.bool false] 4)->LeavesInM O n prog Tryz.f9 tmps (fun e w'=>e=.returned (.bool (EI l))/\Below w.heap.size w w') [] .returning aa:=by
   intro tmps bf aa dt;rw[ay];have cv:=DI aB (BN _);rcases dt with rfl|rfl
   ·exact JR O n w.heap.size tmps bf false w [] _ (World.cell?_setCell_same' _ _ _ (by rw[Y.cell ao 0];rfl)) (fun _ z=>(by cases z)) List.nodup_nil (fun _ z=>(by cases z)) (cv.setCell (p:=⟨w.heap.size,0,none⟩) (BN _) _)
   ·exact JR O n w.heap.size tmps bf false w [] _ (Y.cell ao 0) (fun _ z=>(by cases z)) List.nodup_nil (fun _ z=>(by cases z)) cv
  have az:=Z aV;clear aV ay ao aB;by_cases dW:300<l.length
  ·have bX:decide ((l.length:Int)<1)=false:=As (by omega);have cy:decide ((300:Int)<(l.length:Int))=true:=Au (by omega);gi_wp2
   first|exact az.out _ rfl _ (.inl rfl)|exact az.out _ rfl _ (.inr rfl)
  ·have bX:decide ((l.length:Int)<1)=true:=Au (by omega);gi_wp2
   first|exact az.out _ rfl _ (.inl rfl)|exact az.out _ rfl _ (.inr rfl)
theorem Qv(n0:Nat)(l:List V)(v:Value)(w:World)(h:Dj n0 w v l):Calls prog 9 #[v] w fun e w'=>e=.returned (.bool (EI l))/\w.grownBy w' none:=by
 refine Calls.mono ((callsIn_wide (n:=4)).1 (Sn _ 4 trivial trivial trivial rfl (BN _) n0 l v w h)) ?_;rintro e w' ⟨rfl,z⟩;exact⟨rfl,FU z⟩
end Go.Proofs.YtdhfhphbkfgamaaGreat
