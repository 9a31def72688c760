/- PrintTells: a part of its proof. -/
import Derived.SliceStrings
import Derived.Test.YtdhfhphbkfgamaaGreatKc
import Derived.Test.YtdhfhphbkfgamaaGreatUk
import Derived.Test.YtdhfhphbkfgamaaGreatUl
set_option maxRecDepth 100000
set_option maxHeartbeats 64000000
namespace Go.Proofs.YtdhfhphbkfgamaaGreat
section
open Go.RowKit Lx
theorem E6:(Tryz.prog.info? 4).map (fun i=>(i.zero,i.size,i.bytes))=some (some (.bool false),1,1):=by kernel_rfl
theorem Jh (W:World) (b:Nat) (x:Bool) (z:W.heap.size=b):Src Tryz.prog 1 48 (.slice (some ⟨b,0,none⟩) 1 1) 1 [.bool x] (W.alloc (.cells #[.bool x] 4)):=by
 subst z;exact Own.src (P:=Tryz.prog) (tx:=48) (e':=4) (n:=1) (xs:=[.bool x]) (k:=0) (e:=4) ⟨rfl,.inr ⟨W.heap.size,0,1,_,(0,0),rfl,Y.new W 4 _,BL _,BL _,by unfold maxLen;omega,by show 0+1*1≤1;omega,fun j G=>(by(have F:j=0:=by omega);subst F;rfl)⟩⟩ (by kernel_rfl) (by intro u h;simp at h;subst h;rfl)
structure K3 (w0 w:World) (vt vb va:Value) (t:List (List UInt8)) (b a:List Bool):Prop where
 t:Own w 9 1 vt t.length (t.map sv) 0
 b:Own w 4 1 vb b.length (b.map Value.bool) 0
 a:Own w 4 1 va a.length (a.map Value.bool) 0
 tn: ∀k,vt.ownBlock=some k→w0.heap.size≤k
 bn: ∀k,vb.ownBlock=some k→w0.heap.size≤k
 an: ∀k,va.ownBlock=some k→w0.heap.size≤k
 ba: ∀k,vb.ownBlock=some k→va.ownBlock≠some k
 g:w0.grownBy w none
section
variable {w0 w W wA:World} {vt vb va vA:Value} {t:List (List UInt8)} {b a:List Bool}
theorem K3.nil (w0:World):K3 w0 w0 (.slice none 0 0) (.slice none 0 0) (.slice none 0 0) [] [] []:=
 ⟨Own.nil _ _ _ _,Own.nil _ _ _ _,Own.nil _ _ _ _,fun k h=>(by cases h),fun k h=>(by cases h),fun k h=>(by cases h),fun k h=>(by cases h),AB _ _⟩
theorem K3.Sz (h:K3 w0 W vt vb va t b a) (o:Obj) (x:List UInt8) (F:Own wA 9 1 vA (t.length+1) (t.map sv++[sv x]) 0) (z:Az (fun k=>vt.ownBlock=some k) (W.alloc o) wA) (G: ∀k,vA.ownBlock=some k→vt.ownBlock=some k∨(W.alloc o).heap.size≤k):K3 w0 wA vA vb va (t++[x]) b a where
 t:=by rw[BE,List.map_append];exact F
 b:=(h.b.alloc o).Bl z fun k hk hs=>Ai ((Own.AN (h.t.alloc o) hs).uniq (Own.AN (h.b.alloc o) hk)) (by decide)
 a:=(h.a.alloc o).Bl z fun k hk hs=>Ai ((Own.AN (h.t.alloc o) hs).uniq (Own.AN (h.a.alloc o) hk)) (by decide)
 tn:=fun k hk=>(G k hk).elim (h.tn k) fun e=>Ef (AF h.g o).size e
 bn:=h.bn
 an:=h.an
 ba:=h.ba
 g:=JT (AF h.g o) z fun k hk=>h.tn k hk
theorem K3.MQ (h:K3 w0 W vt vb va t b a) (o:Obj) (x:Bool) (I:Own wA 4 1 vA (b.length+1) (b.map Value.bool++[.bool x]) 0) (z:Az (fun k=>vb.ownBlock=some k) (W.alloc o) wA) (F: ∀k,vA.ownBlock=some k→vb.ownBlock=some k∨(W.alloc o).heap.size≤k):K3 w0 wA vt vA va t (b++[x]) a where
 t:=(h.t.alloc o).Bl z fun k hk hs=>Ai ((Own.AN (h.b.alloc o) hs).uniq (Own.AN (h.t.alloc o) hk)) (by decide)
 b:=by rw[BE,List.map_append];exact I
 a:=(h.a.alloc o).Bl z fun k hk hs=>h.ba k hs hk
 tn:=h.tn
 bn:=fun k hk=>(F k hk).elim (h.bn k) fun e=>Ef (AF h.g o).size e
 an:=h.an
 ba:=fun k hk G=>(F k hk).elim (fun e=>h.ba k e G) fun e=>by have:=Own.lt (h.a.alloc o) G;omega
 g:=JT (AF h.g o) z fun k hk=>h.bn k hk
theorem K3.WX (h:K3 w0 W vt vb va t b a) (o:Obj) (x:Bool) (G:Own wA 4 1 vA (a.length+1) (a.map Value.bool++[.bool x]) 0) (z:Az (fun k=>va.ownBlock=some k) (W.alloc o) wA) (F: ∀k,vA.ownBlock=some k→va.ownBlock=some k∨(W.alloc o).heap.size≤k):K3 w0 wA vt vb vA t b (a++[x])where
 t:=(h.t.alloc o).Bl z fun k hk hs=>Ai ((Own.AN (h.a.alloc o) hs).uniq (Own.AN (h.t.alloc o) hk)) (by decide)
 b:=(h.b.alloc o).Bl z fun k hk hs=>h.ba k hk hs
 a:=by rw[BE,List.map_append];exact G
 tn:=h.tn
 bn:=h.bn
 an:=fun k hk=>(F k hk).elim (h.an k) fun e=>Ef (AF h.g o).size e
 ba:=fun k hk I=>(F k I).elim (fun e=>h.ba k hk e) fun e=>by have:=Own.lt (h.b.alloc o) hk;omega
 g:=JT (AF h.g o) z fun k hk=>h.an k hk
theorem K3.D8 (h:K3 w0 w vt vb va t b a) (z:w.grownBy W none):K3 w0 W vt vb va t b a:=
 ⟨GW z h.t,GW z h.b,GW z h.a,h.tn,h.bn,h.an,h.ba,AI h.g z⟩
end
structure AE (w0 w:World) (vt vb:Value) (t:List (List UInt8)) (b:List Bool):Prop where
 t:Own w 9 1 vt t.length (t.map sv) 0
 b:Own w 4 1 vb b.length (b.map Value.bool) 0
 tn: ∀k,vt.ownBlock=some k→w0.heap.size≤k
 bn: ∀k,vb.ownBlock=some k→w0.heap.size≤k
 g:w0.grownBy w none
section
variable {w0 w W wA:World} {vt vb vA:Value} {t:List (List UInt8)} {b:List Bool}
theorem AE.nil (w0:World):AE w0 w0 (.slice none 0 0) (.slice none 0 0) [] []:=
 ⟨Own.nil _ _ _ _,Own.nil _ _ _ _,fun k h=>(by cases h),fun k h=>(by cases h),AB _ _⟩
theorem AE.Sz (h:AE w0 W vt vb t b) (o:Obj) (x:List UInt8) (F:Own wA 9 1 vA (t.length+1) (t.map sv++[sv x]) 0) (z:Az (fun k=>vt.ownBlock=some k) (W.alloc o) wA) (G: ∀k,vA.ownBlock=some k→vt.ownBlock=some k∨(W.alloc o).heap.size≤k):AE w0 wA vA vb (t++[x]) b where
 t:=by rw[BE,List.map_append];exact F
 b:=(h.b.alloc o).Bl z fun k hk hs=>Ai ((Own.AN (h.t.alloc o) hs).uniq (Own.AN (h.b.alloc o) hk)) (by decide)
 tn:=fun k hk=>(G k hk).elim (h.tn k) fun e=>Ef (AF h.g o).size e
 bn:=h.bn
 g:=JT (AF h.g o) z fun k hk=>h.tn k hk
theorem AE.MQ (h:AE w0 W vt vb t b) (o:Obj) (x:Bool) (F:Own wA 4 1 vA (b.length+1) (b.map Value.bool++[.bool x]) 0) (z:Az (fun k=>vb.ownBlock=some k) (W.alloc o) wA) (G: ∀k,vA.ownBlock=some k→vb.ownBlock=some k∨(W.alloc o).heap.size≤k):AE w0 wA vt vA t (b++[x])where
 t:=(h.t.alloc o).Bl z fun k hk hs=>Ai ((Own.AN (h.b.alloc o) hs).uniq (Own.AN (h.t.alloc o) hk)) (by decide)
 b:=by rw[BE,List.map_append];exact F
 tn:=h.tn
 bn:=fun k hk=>(G k hk).elim (h.bn k) fun e=>Ef (AF h.g o).size e
 g:=JT (AF h.g o) z fun k hk=>h.bn k hk
theorem AE.D8 (h:AE w0 w vt vb t b) (z:w.grownBy W none):AE w0 W vt vb t b:=
 ⟨GW z h.t,GW z h.b,h.tn,h.bn,AI h.g z⟩
end
theorem Jv {w:World} {e:TypeId} {v:Value} {xs:List Value} {n:Nat} (F:Own w e 1 v n xs 0) (i:Nat) (K:i<n) (x:Value) (hx:xs[i]? =some x): ∃g h z,v=.slice (some ⟨g,h,none⟩) n z∧g<w.heap.size∧w.cell? ⟨g,h+i,none⟩=some x:=by
 obtain⟨g,h,z,G,_,_,I,J⟩:=F.some_ (by omega);exact⟨g,h,z,G,I,by rw[J i (by omega)];exact hx⟩
section
variable {l:List V}
theorem NX: ∀m,(Ca l m).1.length=m
 |0=>rfl
 |m+1=>by rw[Ca];simp[NX m]
theorem NW: ∀m,(Ca l m).2.length=m
 |0=>rfl
 |m+1=>by rw[Ca];simp[NW m]
theorem QP (n:V) (t:List (List UInt8)) (b a:List Bool) (e:Bool):(IC n t b a e).length≤8192:=by unfold IC;exact IG _
theorem Rh: ∀m,∀s∈(Ca l m).1,s.length≤8192
 |0,s,h=>by simp[Ca]at h
 |m+1,s,h=>by
  rw[Ca]at h;rcases List.mem_append.1 h with h|h
  ·exact Rh m s h
  ·rw[List.mem_singleton.1 h];exact QP _ _ _ _ _
theorem TE {A:List (List UInt8)} (z: ∀s∈A,s.length≤8192) (i:Nat):(A.getD i []).length≤8192:=by
 by_cases h:i<A.length
 ·rw[show A.getD i []=A[i] by simp[h]];exact z _ (List.getElem_mem h)
 ·rw[show A.getD i []=[] by simp[h]];exact DM _
theorem Sg {A:List (List UInt8)} (h: ∀s∈A,s.length≤8192) (n:V): ∀s∈Eg A n,GN s:=by
 intro s hs;unfold Eg at hs;obtain⟨k,_,rfl⟩:=List.mem_map.1 hs;unfold GN;split
 ·exact DM _
 ·have:=TE h k.toNat;omega
theorem Ir {A:List (List UInt8)} (n:V):(Eg A n).length=n.kids.length:=by unfold Eg;simp
theorem JV (n:V):(Dz l n).length=n.kids.length:=by unfold Dz;simp
theorem Im {E:List Bool} (n:V):(Cz E n).length=n.kids.length:=by unfold Cz;simp
theorem QJ {A:List (List UInt8)} (n:V) (r:Nat) (h:r<n.kids.length):(Eg A n).take (r+1)=(Eg A n).take r++[if n.kids[r]<0 then []else A.getD (n.kids[r]).toNat []]:=by
 rw[List.take_succ_eq_append_getElem (by rw[Ir];exact h)];congr 2
 unfold Eg;simp
theorem Ob (n:V) (r:Nat) (h:r<n.kids.length):(Dz l n).take (r+1)=(Dz l n).take r++[if n.kids[r]<0 then false else(JO l n.kids[r]).kind==7]:=by
 rw[List.take_succ_eq_append_getElem (by rw[JV];exact h)];congr 2
 unfold Dz;simp
theorem M3 {E:List Bool} (n:V) (r:Nat) (h:r<n.kids.length):(Cz E n).take (r+1)=(Cz E n).take r++[if n.kids[r]<0 then false else E.getD (n.kids[r]).toNat false]:=by
 rw[List.take_succ_eq_append_getElem (by rw[Im];exact h)];congr 2
 unfold Cz;simp
theorem Qv (i:Nat) (h:i<l.length) (n:V) (z:l[i]=n):Ca l (i+1)=((Ca l i).1++[IC n (Eg (Ca l i).1 n) (Dz l n) (Cz (Ca l i).2 n) (Dc l n)],(Ca l i).2++[LA l n]):=by
 rw[Ca,show l.getD i PV=n by rw[←z];simp[h]]
end
end
section
open Go.RowKit Lx
def S1 (s:List UInt8):Prop:=s.length≤100000
def P1 (p:List (List UInt8)):Prop:=p.length≤100000∧ ∀s∈p,S1 s
def R1 (r:Rd):Prop:=S1 r.op∧S1 r.wd
structure Qf (n:V):Prop where
 name:S1 n.name
 kids:n.kids.length≤100000
 AY: ∀s∈n.AY,S1 s
 words: ∀s∈n.words,S1 s
 DB: ∀r∈n.AK,R1 r
 AS:n.AS.length≤100000
 pat: ∀p∈n.AS,P1 p
theorem PC: ∀p:List (List UInt8),(∀s∈p,S1 s)→(Ck p).length≤p.length*100003
 |[],_=>DM _
 |[s],h=>by
  have:=h s (List.mem_cons_self ..);unfold S1 at this;show s.length≤1*100003;omega
 |s::t::r,h=>by
  have z:=h s (List.mem_cons_self ..);have F:=PC (t::r) fun x hx=>h x (List.mem_cons_of_mem _ hx)
  unfold S1 at z;show(s++[32,124,32]++Ck (t::r)).length≤_;rw[BE,BE];simp only[BP,List.length_nil]at F⊢;omega
theorem Qf.Wf {n:V} (h:Qf n):QL n:=by
 refine⟨fun s hs=>Ef (h.words s hs) (by decide),fun p G=>?_,fun r I=>?_⟩
 ·obtain⟨F,z⟩:=h.pat p G;have J:=PC p z;omega
 ·obtain⟨F,z⟩:=h.DB r I;exact⟨Ef F (by decide),Ef z (by decide)⟩
theorem Ff {α:Type} {Q:α→Prop} {xs:List α} {i:Nat} (z:i<xs.length) (F: ∀x∈xs.take i,Q x) (hx:Q xs[i]): ∀x∈xs.take (i+1),Q x:=by
 rw[List.take_succ_eq_append_getElem z];intro x h;rcases List.mem_append.1 h with h|h
 ·exact F x h
 ·rw[List.mem_singleton.1 h];exact hx
theorem GO {α:Type} {Q:α→Prop} {xs:List α} {i:Nat} (z:xs.length≤i) (h: ∀x∈xs.take i,Q x): ∀x∈xs,Q x:=by
 rw[List.take_of_length_le z]at h;exact h
end
section
open Go.ChangeShapes Go.WideShapes Go.ChangeAt Go.RowKit Go.Deep Lx
theorem LR {α:Type} {Q:Nat→α→Prop} : ∀(n:Nat),(∀i,i<n→ ∃y,Q i y)→ ∃h:List α,h.length=n∧ ∀i (z:i<h.length),Q i h[i]
 |0,_=>⟨[],rfl,fun i z=>Ai z (Nat.not_lt_zero i)⟩
 |n+1,z=>by
  obtain⟨h,G,J⟩:=LR n fun i F=>z i (Nat.lt_succ_of_lt F)
  obtain⟨y,hy⟩:=z n (Nat.lt_succ_self n);refine⟨h++[y],by rw[BE,G];rfl,fun i F=>?_⟩;by_cases I:i<h.length
  ·rw[List.getElem_append_left I];exact J i I
  ·rw[BE,Cd]at F;obtain rfl:i=h.length:=by omega
   rw[List.getElem_append_right (BL _)];simpa [G]using hy
theorem Ok {α:Type} {f:α→List Value} {c:Nat} (G: ∀x,(f x).length=c) {v:Value} : ∀(F:List α) (z:Nat),(F.flatMap f)[z]? =some v→ ∃i,∃h:i<F.length,∃j,j<c∧z=i*c+j∧(f F[i])[j]? =some v
 |[],z,h=>by simp at h
 |y::F,z,h=>by
  rw[List.flatMap_cons]at h;by_cases I:z<(f y).length
  ·rw[List.getElem?_append_left I]at h;exact⟨0,by simp,z,by rw[←G y];exact I,by omega,h⟩
  ·rw[List.getElem?_append_right (by omega)]at h;obtain⟨i,L,j,J,e,K⟩:=Ok G F _ h;refine⟨i+1,by simp;omega,j,J,?_,K⟩;have:=G y;rw[Nat.add_mul];omega
theorem KH {α:Type} (f:α→Value): ∀h:List α,h.flatMap (fun s=>[f s])=h.map f
 |[]=>rfl
 |x::h=>by rw[List.flatMap_cons,KH f h];rfl
theorem KP {α:Type} {f:α→List Value} {c:Nat} (F: ∀x,(f x).length=c): ∀(h:List α) (i j:Nat) (z:i<h.length),j<c→(h.flatMap f)[i*c+j]? =(f h[i])[j]?
 |[],i,j,z,_=>by simp at z
 |y::h,0,j,z,G=>by
  rw[List.flatMap_cons,List.getElem?_append_left (by rw[F];omega)];simp
 |y::h,i+1,j,z,G=>by
  rw[List.flatMap_cons,List.getElem?_append_right (by rw[F,Nat.add_mul];omega),F,Nat.add_mul];rw[show i*c+1*c+j-c=i*c+j by omega];exact KP F h i j (by simpa using z) G
section
variable {H:Type} {enc:TypeId×Value→H} {W:World}
theorem GG {α:Type} (f:α→List Value) (c:Nat) (ac: ∀x,(f x).length=c) (R:α→Prop) {t e:TypeId} {fuel:Nat} {cs:List Value} {x:DataW H×List MemPlace} (ad:Tryz.prog.underlying t=some (.slice e)) (ae:Tryz.prog.cellsOf e=c) (G:0<c)
  (J:DataW.trod enc Tryz.prog W 0 (fun _=>true) true fuel t cs=some x) (O: ∀q∈x.2,q.block<W.heap.size)
  (af: ∀n F y,F.length=c→DataW.trod enc Tryz.prog W 0 (fun _=>true) true n e F=some y→(∀q∈y.2,q.block<W.heap.size)→ ∃x,F=f x∧R x):
  ∃a K,∃z:List α,cs=[.slice a z.length K]∧Rows W (.slice a z.length K) z.length (z.flatMap f)∧ ∀x∈z,R x:=by
 rcases open_slice ad J with⟨L,hx⟩|⟨a,ag,K,m,n,D,ah,L,_,ai,aj,X,hx,M⟩
 ·exact⟨none,0,[],L,⟨none,0,rfl,BL _,by simp,fun J=>Ai J (by simp)⟩,by simp⟩
 ·simp only[if_true]at X;subst X;rw[ae]at M hx;have aa:x.2=MemPlace.row a (m*c)++(List.range m).flatMap ah:=congrArg Prod.snd hx;obtain⟨z,ak,ab⟩:=LR (Q:=fun i x=>R x∧ ∀g h,a=⟨g,h,none⟩→ ∀j,j<c→W.cell? ⟨g,h+(i*c+j),none⟩=(f x)[j]?) ag fun i I=>by
   obtain⟨F,al,am⟩:=M i (by omega);obtain⟨_,an,ao⟩:=World.cells?_some al;obtain⟨y,rfl,ap⟩:=af n F _ an am fun q aq=>O q (by
    rw[aa];exact List.mem_append_right _ (List.mem_flatMap.2 ⟨i,List.mem_range.2 (by omega),aq⟩))
   refine⟨y,ap,fun g h ar j N=>?_⟩;subst ar;rw[←ao j N,Addr.add_lit,Addr.add_lit,Nat.add_assoc]
  subst ak;refine⟨some a,m,z,L,⟨some a,m,rfl,ai,by unfold maxLen at aj;omega,fun aA=>?_⟩,fun x hx=>?_⟩
  ·obtain⟨aB,au,aC⟩:=M 0 (by omega);obtain⟨_,aD,aw⟩:=World.cells?_some au;obtain⟨b,h,rfl⟩: ∃b h,a=⟨b,h,none⟩:=by
    have G:=aw 0 (by omega);rw[List.getElem?_eq_getElem (by omega),Go.Deep.add_add]at G;exact Nu (by simpa using G)
   refine⟨b,h,rfl,?_,fun ax v ay=>?_⟩
   ·refine O (MemPlace.cell b h) ?_;rw[aa];exact List.mem_append_left _ (Sh (Nat.mul_pos (by omega) G))
   ·obtain⟨i,I,j,N,rfl,az⟩:=Ok ac z ax ay;rw[(ab i I).2 b h rfl j N];exact az
  ·obtain⟨i,I,rfl⟩:=List.getElem_of_mem hx;exact(ab i I).1
theorem NQ {h:World} {z:Nat} {v:Value} {n:Nat} {cs:List Value} (F:Rows W v n cs) (G:W.grownBy h none) (I:h.heap.size≤z):Cr z h v n cs:=fun _ J=>EF F (AI G (J.below I))
theorem GQ {v:Value} {n:Nat} {cs:List Value} (h:Rows W v n cs):Cr W.heap.size W v n cs:=NQ h (AB W none) (BL _)
theorem Cr.old {n0:Nat} {h:World} {z:Nat} {v:Value} {n:Nat} {cs:List Value} (F:Cr n0 W v n cs) (G:W.grownBy h none) (I:h.heap.size≤z):Cr z h v n cs:=NQ F.now G I
theorem E4.old {n0:Nat} {h:World} {z:Nat} {v:Value} {l:List (List (List UInt8))} (I:E4 n0 W v l) (F:W.grownBy h none) (G:h.heap.size≤z):E4 z h v l:=by
 obtain⟨cs,J,K⟩:=I;exact⟨cs,J.old F G,fun i L=>by obtain⟨u,M,hs⟩:=K i L;exact⟨u,M,Cr.old hs F G⟩⟩
theorem DZ.old {n0:Nat} {F:World} {G:Nat} {v:Value} {l:List V} (I:DZ n0 W v l) (h:W.grownBy F none) (z:F.heap.size≤G):DZ G F v l:=by
 obtain⟨cs,J,K⟩:=I;refine⟨cs,J.old h z,fun i L=>?_⟩;obtain⟨a,b,r,p,k,e,hs⟩:=K i L;exact⟨a,b,r,p,k,e,Cr.old hs.AY h z,Cr.old hs.words h z,Cr.old hs.DB h z,hs.AS.old h z,Cr.old hs.kids h z⟩
variable {fuel:Nat} {cs:List Value} {x:DataW H×List MemPlace}
theorem MG (F:DataW.trod enc Tryz.prog W 0 (fun _=>true) true fuel 27 cs=some x) (G: ∀q∈x.2,q.block<W.heap.size): ∃v,∃h:List (List UInt8),cs=[v]∧CQ W.heap.size W v h:=by
 obtain⟨a,J,h,I,z,_⟩:=GG (fun s:List UInt8=>[sv s]) 1 (fun _=>rfl) (fun _=>True) Tryz.underlying27 (by kernel_rfl) (by omega) F G fun n K y _ hy _=>by
  obtain⟨s,hs,_⟩:=DataW.trod_string Tryz.underlying9 hy;exact⟨s.data.toList,by rw[hs];simp[sv],trivial⟩
 rw[KH sv]at z;exact⟨_,h,I,GQ z⟩
theorem Tl (F:DataW.trod enc Tryz.prog W 0 (fun _=>true) true fuel 30 cs=some x) (G: ∀q∈x.2,q.block<W.heap.size): ∃v,∃h:List Int,cs=[v]∧E0 W.heap.size W v h:=by
 obtain⟨a,J,h,I,z,_⟩:=GG (fun s:Int=>[Value.int .i64 s]) 1 (fun _=>rfl) (fun _=>True) Tryz.underlying30 (by kernel_rfl) (by omega) F G fun n K y _ hy _=>by
  obtain⟨s,hs,_⟩:=DataW.trod_int Tryz.underlying3 hy;exact⟨s,hs,trivial⟩
 rw[KH (Value.int .i64)]at z;exact⟨_,h,I,GQ z⟩
theorem Xy {h:List Value} (I:h.length=3) {a b c:Value} (z:h[0]? =some a) (F:h[1]? =some b) (G:h[2]? =some c):h=[a,b,c]:=by
 match h,I with
 |[x,y,J],_=>
  simp at z F G;subst z F G;rfl
theorem YB {h:List Value} (N:h.length=8) {a b c d e f g k:Value} (z:h[0]? =some a) (F:h[1]? =some b) (G:h[2]? =some c) (I:h[3]? =some d) (J:h[4]? =some e) (K:h[5]? =some f) (L:h[6]? =some g) (M:h[7]? =some k):h=[a,b,c,d,e,f,g,k]:=by
 match h,N with
 |[O,X,aa,ab,ac,ad,ae,af],_=>
  simp at z F G I J K L M;subst z F G I J K L M;rfl
theorem VV (L:DataW.trod enc Tryz.prog W 0 (fun _=>true) true fuel 28 cs=some x) (M: ∀q∈x.2,q.block<W.heap.size): ∃v,∃h:List Rd,cs=[v]∧MY W.heap.size W v h:=by
 obtain⟨a,ag,h,N,O,_⟩:=GG Rd.cells 3 (fun _=>rfl) (fun _=>True) Tryz.underlying28 (by kernel_rfl) (by omega) L M fun n ah y X hy _=>by
  obtain⟨z,m,_,_,_,F,G⟩:=DataW.trod_struct Tryz.underlying34 hy;have I:=G 0 _ rfl;have J:=G 1 _ rfl;have K:=G 2 _ rfl;rw[List.getElem?_eq_getElem (show 0<z.length by rw[F];decide)]at I;rw[List.getElem?_eq_getElem (show 1<z.length by rw[F];decide)]at J;rw[List.getElem?_eq_getElem (show 2<z.length by rw[F];decide)]at K;obtain⟨aa,ab,_⟩:=DataW.trod_int Tryz.underlying3 I;obtain⟨ac,ad,_⟩:=DataW.trod_string Tryz.underlying9 J;obtain⟨ae,af,_⟩:=DataW.trod_string Tryz.underlying9 K;exact⟨⟨aa,ac.data.toList,ae.data.toList⟩,by rw[Xy X (Dj ab) (Dj ad) (Dj af)];simp[Rd.cells,sv],trivial⟩
 exact⟨_,h,N,GQ O⟩
theorem TP (F:DataW.trod enc Tryz.prog W 0 (fun _=>true) true fuel 29 cs=some x) (G: ∀q∈x.2,q.block<W.heap.size): ∃v,∃h:List (List (List UInt8)),cs=[v]∧E4 W.heap.size W v h:=by
 obtain⟨a,O,h,I,J,K⟩:=GG (fun s:Value×List (List UInt8)=>[s.1]) 1 (fun _=>rfl) (fun s=>CQ W.heap.size W s.1 s.2) Tryz.underlying29 (by kernel_rfl) (by omega) F G fun n X y _ hy L=>by
  obtain⟨v,M,N,hs⟩:=MG hy L;exact⟨(v,M),N,hs⟩
 refine⟨_,h.map (·.2),I,h.flatMap (fun s:Value×List (List UInt8)=>[s.1]),by rw[List.length_map];exact GQ J,fun i z=>?_⟩;rw[List.length_map]at z;refine⟨h[i].1,?_,?_⟩
 ·have:=KP (f:=fun s:Value×List (List UInt8)=>[s.1]) (c:=1) (fun _=>rfl) h i 0 z (by omega);simpa using this
 ·rw[List.getElem_map];exact K _ (List.getElem_mem z)
structure Xa where
 n:V
 a:Value
 b:Value
 r:Value
 p:Value
 k:Value
theorem Tj {v:Value} {d:DataW H} {p:List MemPlace} (h:DataW.Trod enc Tryz.prog W 0 (fun _=>true) true 22 v d p) (aj: ∀x∈p,x.block<W.heap.size) (ak: ∃a al J,v=.slice a al J): ∃l:List V,DZ W.heap.size W v l:=by
 obtain⟨am,an,ao,rfl⟩:=ak;obtain⟨fuel,h⟩:=h;obtain⟨a,J,F,ap,aq,ar⟩:=GG (fun s:Xa=>AT s.n s.a s.b s.r s.p s.k) 8 (fun _=>rfl) (fun s=>FP W.heap.size W s.a s.b s.r s.p s.k s.n) Tryz.underlying22 (by kernel_rfl) (by omega) h aj fun n a1 y au hy aw=>by
  obtain⟨z,m,_,hx,_,G,h⟩:=DataW.trod_struct Tryz.underlying32 hy;have I: ∀i (L:i<z.length),∀q∈z[i].2,q.block<W.heap.size:=fun i L q ax=>aw q (by rw[hx];exact List.mem_flatMap.2 ⟨z[i],List.getElem_mem L,ax⟩)
  have ay:0<z.length:=(by rw[G];decide);have M:=h 0 _ rfl;rw[List.getElem?_eq_getElem ay]at M;have az:1<z.length:=(by rw[G];decide);have N:=h 1 _ rfl;rw[List.getElem?_eq_getElem az]at N;have aA:2<z.length:=(by rw[G];decide);have O:=h 2 _ rfl;rw[List.getElem?_eq_getElem aA]at O;have X:3<z.length:=(by rw[G];decide);have aa:=h 3 _ rfl;rw[List.getElem?_eq_getElem X]at aa;have ab:4<z.length:=(by rw[G];decide);have ac:=h 4 _ rfl;rw[List.getElem?_eq_getElem ab]at ac;have ad:5<z.length:=(by rw[G];decide);have ae:=h 5 _ rfl;rw[List.getElem?_eq_getElem ad]at ae;have af:6<z.length:=(by rw[G];decide);have ag:=h 6 _ rfl;rw[List.getElem?_eq_getElem af]at ag;have ah:7<z.length:=(by rw[G];decide);have ai:=h 7 _ rfl;rw[List.getElem?_eq_getElem ah]at ai;obtain⟨aB,aC,_⟩:=DataW.trod_int Tryz.underlying3 M;obtain⟨aD,aE,_⟩:=DataW.trod_string Tryz.underlying9 N;obtain⟨aF,aG,_⟩:=DataW.trod_bool Tryz.underlying4 O;obtain⟨z3,aH,aI,s3⟩:=MG aa (I 3 X);obtain⟨aJ,aK,aL,aM⟩:=MG ac (I 4 ab);obtain⟨aN,aO,aP,aQ⟩:=VV ae (I 5 ad);obtain⟨aR,aS,aT,aU⟩:=TP ag (I 6 af);obtain⟨aV,aW,aX,aY⟩:=Tl ai (I 7 ah);refine⟨⟨⟨aB,aD.data.toList,aF,aH,aK,aO,aS,aW⟩,z3,aJ,aN,aR,aV⟩,?_,⟨s3,aM,aQ,aU,aY⟩⟩;rw[YB au (Dj aC) (Dj aE) (Dj aG) (Dj aI) (Dj aL) (Dj aP) (Dj aT) (Dj aX)];simp[AT,sv]
 have aZ:Value.slice am an ao=.slice a F.length J:=(by simpa [Value.cells]using ap);rw[aZ];refine⟨F.map (·.n),F.flatMap (fun s:Xa=>AT s.n s.a s.b s.r s.p s.k),by rw[List.length_map];exact GQ aq,fun i K=>?_⟩;rw[List.length_map]at K;refine⟨F[i].a,F[i].b,F[i].r,F[i].p,F[i].k,fun j a0=>?_,?_⟩
 ·rw[KP (f:=fun s:Xa=>AT s.n s.a s.b s.r s.p s.k) (c:=8) (fun _=>rfl) F i j K a0,List.getElem_map]
 ·rw[List.getElem_map];exact ar _ (List.getElem_mem K)
end
end
section
open Go.RowKit Lx
def Vd (l:List V) (w:World) (e:Ending) (w':World):Prop:=(∃b,e=.returned (.bool b)∧(b=false→ ∀n∈l,Qf n))∧w.grownBy w' none
theorem Z1X {P:Prop} (h:P:=by
 have bl:=sz s;clear hs aj;go_wp2_with fail;rw[ar.out];go_roundg (gk-1);case rel=>exact⟨k+1,c+2+F,by rw[Int.natCast_add];rfl,rfl,I,by have:=ac.out;omega,by omega,by omega,ak.out,rfl⟩
 case measure=>have:=ac.out;omega):P:=h
theorem Z1Y {P:Prop} (h:P:=by
 go_wp2_with fail;go_roundg (aC-1);case rel=>exact⟨k+1,c,by rw[Int.natCast_add];rfl,rfl,I,by have:=ac.out;omega,by omega,by omega,by omega,ak.out,rfl⟩
 case measure=>have:=ac.out;have:=bF.out;omega):P:=h
theorem Z1Z {P:Prop} (h:P:=by
 go_wp2_with fail;go_roundg (aH-1);case rel=>exact⟨i+1,c,by rw[Int.natCast_add];rfl,rfl,by omega,by have:=aE.out;omega,K,L,bp.out,aB.out⟩
 case measure=>have:=aE.out;omega):P:=h
theorem Z20 {P:Prop} (h:P:=by
 go_wp2_with fail;go_meet;exact⟨c,rfl,K,L,al.out,rfl⟩):P:=h
theorem Z21 {P:Prop} (h:P:=by
 go_wp2_with fail;go_ret;exact⟨⟨true,rfl,fun e=>by cases e⟩,aF.out⟩):P:=h
theorem QO (n0:Nat) (l:List V) (v:Value) (w:World) (G:DZ n0 w v l):Calls Tryz.prog 5 #[v] w (Vd l w):=by
 obtain⟨ci,cj,rfl,br⟩:=G.form;have bs:=Z G;obtain⟨ad,aX⟩: ∃ad,l.length=ad:=⟨_,rfl⟩;rw[aX]at br bs⊢;have aY:=Z aX;have ck:(ad:Int)≤9223372036854775807:=(by omega);clear G aX br;go_enter Tryz.func5,Tryz.ntmps5;go_wp2_with fail;go_loopg [3,4] (ad+1) (fun g O bL wr=> ∃(i:Nat) (c:Int),bL=.int .i64 i∧O=.int .i64 c∧i≤ad∧g+i=ad+1∧0≤c∧c≤400000∧(c<100000→ ∀n∈l.take i,Qf n)∧w.grownBy wr none);case atStart=>exact⟨0,0,rfl,rfl,DM _,rfl,by omega,by omega,fun _ n az=>by simp at az,AB _ _⟩
 case round=>
  obtain⟨i,c,rfl,rfl,cl,W,K,L,bt,aA⟩:=hrel;have aE:=Z W;have aF:=Z aA;have bu:=Z bt;clear bt W;by_cases bv:i<ad
  ·have bM:decide ((i:Int)<(ad:Int))=true:=At (by omega);have ae:decide (i<ad)=true:=At bv;by_cases z:c<100000
   ·have ab:decide (c<100000)=true:=At z;have bN:i<l.length:=(by have:=aY.out;omega);obtain⟨g,cm,cn,co,cp,cq,cr,cs,bO,-,-,bP,af,u0,u1,u2,u3,u4,u5,u6,u7⟩:=(bs.out.pf (PF.AL (n0:=n0) aA)).at_ i bN;injection bO with bQ bR bS;subst bQ;subst bS;clear bR;obtain⟨n,az⟩: ∃n,l[i]=n:=⟨_,rfl⟩;rw[az]at af u0 u1 u2;have bT:=Z (show∀G:i<l.length,l[i]=n from fun _=>az);obtain⟨aZ,a0,a1,a2,a3,a4,a5,a6,a7,a8,rfl,rfl,rfl,rfl,rfl⟩:=af.C1;have ct:(0:Int)≤(i:Int)∧(i:Int)<(ad:Int):=(by omega);have cu:(i:Int)+1≤9223372036854775807:=(by omega);have cv:(n.AY.length:Int)≤9223372036854775807:=(by obtain⟨_,_,_,_,ap,_⟩:=af.AY.now;omega);have cw:(n.words.length:Int)≤9223372036854775807:=(by obtain⟨_,_,_,_,ap,_⟩:=af.words.now;omega);have cx:(n.AK.length:Int)≤9223372036854775807:=(by obtain⟨_,_,_,_,ap,_⟩:=af.DB.now;omega);have cy:(n.kids.length:Int)≤9223372036854775807:=(by obtain⟨_,_,_,_,ap,_⟩:=af.kids.now;omega);have cz:(n.AS.length:Int)≤9223372036854775807:=(by obtain⟨_,_,_,ap⟩:=af.AS.form;omega);have bU:=Z (bu.out z);have au:=AF (AB wr none) (.cells #[.int .i64 n.kind,.string ⟨n.name.toArray⟩,.bool n.A5,.slice aZ n.AY.length a0,.slice a1 n.words.length a2,.slice a3 n.AK.length a4,.slice a5 n.AS.length a6,.slice a7 n.kids.length a8] 32);have h:=Y.new wr 32 #[.int .i64 n.kind,.string ⟨n.name.toArray⟩,.bool n.A5,.slice aZ n.AY.length a0,.slice a1 n.words.length a2,.slice a3 n.AK.length a4,.slice a5 n.AS.length a6,.slice a7 n.kids.length a8];have a9:=Z (Cr.pf af.AY (PF.AL (n0:=n0) au):CQ n0 _ _ _);have a':=Z (Cr.pf af.words (PF.AL (n0:=n0) au):CQ n0 _ _ _);have ba:=Z (Cr.pf af.DB (PF.AL (n0:=n0) au):MY n0 _ _ _);have aG:=Z (E4.pf af.AS (PF.AL (n0:=n0) au));have aB:=Z (AI aF.out au);unfold sv at u1;obtain⟨aH,cA⟩: ∃aH,aH=gk:=⟨_,rfl⟩;obtain⟨B,bb⟩: ∃B,wr.heap.size=B:=⟨_,rfl⟩;have cB:=Z bb;rw[bb]at h;clear az af aA au;go_upto_region 6 with(fail);obtain⟨ag,bw⟩: ∃ag,wr.alloc (.cells #[.int .i64 n.kind,.string ⟨n.name.toArray⟩,.bool n.A5,.slice aZ n.AY.length a0,.slice a1 n.words.length a2,.slice a3 n.AK.length a4,.slice a5 n.AS.length a6,.slice a7 n.kids.length a8] 32)=ag:=⟨_,rfl⟩;rw[bw]at h a9 a' ba aG aB⊢;have aI:=Y.cell h 0;have aJ:=Y.cell h 1;have aK:=Y.cell h 2;have aL:=Y.cell h 3;have aM:=Y.cell h 4;have aN:=Y.cell h 5;have aO:=Y.cell h 6;have aP:=Y.cell h 7;have aQ:=Y.lt h;have aR:=Z h;obtain⟨bc,bx⟩: ∃y:Int,min ((n.name.length:Nat):Int) 100000=y:=⟨_,rfl⟩;obtain⟨bd,bz⟩: ∃y:Int,min ((n.kids.length:Nat):Int) 100000=y:=⟨_,rfl⟩;have bV:=Z bx;have bW:=Z bz;have bX:0≤bc∧bc≤100000:=(by omega);have bY:0≤bd∧bd≤100000:=(by omega);obtain⟨an,be⟩: ∃P:Prop,((∀m∈l.take i,Qf m)∧S1 n.name∧n.kids.length≤100000)=P:=⟨_,rfl⟩;have ah:=Z (show c+10+bc+bd<100000→an from fun N=>by rw[←be];exact⟨bU.out,show n.name.length≤100000 by omega,by omega⟩);have bZ:=Z be;have b0:=sz n.name;clear bw bb h bx bz be u0 u1 u2 u3 u4 u5 u6 u7 bP;go_upto_region 7 with(fail);obtain⟨aS,bA⟩: ∃y,c+10+min ((n.name.length:Nat):Int) 100000+min ((n.kids.length:Nat):Int) 100000=y:=⟨_,rfl⟩;have b1:0≤aS∧aS≤400000:=(by omega);have ah:=Z (show aS<100000→an from fun N=>ah.out (by rw[←bV.out,←bW.out];omega));rw[bA];clear bA bX bY K L z ab b0;obtain⟨K,L⟩:=b1;obtain⟨c,b2⟩: ∃y,y=aS:=⟨_,rfl⟩;subst b2;go_upto_block 2 with(fail);go_cut [3,6] (fun O ai aa=> ∃c:Int,O=.int .i64 c∧0≤c∧c≤400000∧(c<100000→an∧ ∀s∈n.AY,S1 s)∧ag=aa);case first=>
     go_wp2_with fail;go_loopg [3,6] (n.AY.length+1) (fun g O ai aa=> ∃(k:Nat) (c:Int),ai=.int .i64 k∧O=.int .i64 c∧k≤n.AY.length∧g+k=n.AY.length+1∧0≤c∧c≤400000∧(c<100000→an∧ ∀s∈n.AY.take k,S1 s)∧ag=aa);case atStart=>exact⟨0,_,rfl,rfl,DM _,rfl,by omega,by omega,fun N=>⟨ah.out N,fun s hs=>by simp at hs⟩,rfl⟩
     case round=>
      obtain⟨k,c,rfl,rfl,hk,W,K,L,J,M⟩:=hrel;subst M;have ac:=Z W;have X:=Z J;clear J W;by_cases I:k<n.AY.length
      ·have q:decide ((k:Int)<(n.AY.length:Int))=true:=At (by omega);have ae:decide (k<n.AY.length)=true:=At I;by_cases z:c<100000
       ·have ab:decide (c<100000)=true:=At z;have bf:(0:Int)≤(k:Int)∧(k:Int)<(n.AY.length:Int):=(by omega);have bg:(k:Int)+1≤9223372036854775807:=(by omega);obtain⟨bh,bi,aq,bj,ao⟩:=CQ.get a9.out k I;subst aq;obtain⟨s,hs⟩: ∃s,n.AY[k]=s:=⟨_,rfl⟩;rw[hs]at ao;unfold sv at ao;obtain⟨F,aj⟩: ∃F:Int,min ((s.length:Nat):Int) 100000=F:=⟨_,rfl⟩;have ar:=Z aj;have bk:0≤F∧F≤100000:=(by omega);have ak:=Z (show c+2+F<100000→an∧ ∀s∈n.AY.take (k+1),S1 s from fun N=>⟨(X.out z).1,Ff I (X.out z).2 (by rw[hs];show s.length≤100000;omega)⟩);exact Z1X
       ·have ab:decide (c<100000)=false:=Aq z;have al:=Z (show c<100000→an∧ ∀s∈n.AY,S1 s from fun G=>Ai G z);exact Z20
      ·have q:decide ((k:Int)<(n.AY.length:Int))=false:=Aq (by omega);have ae:decide (k<n.AY.length)=false:=Aq I;have al:=Z (show c<100000→an∧ ∀s∈n.AY,S1 s from fun G=>⟨(X.out G).1,GO (i:=k) (by omega) (X.out G).2⟩);exact Z20
    case rest=>
    obtain⟨c,rfl,K,L,J,M⟩:=hcut;subst M;have ah:=Z J;clear J;obtain⟨aw,am⟩: ∃P:Prop,(an∧ ∀s∈n.AY,S1 s)=P:=⟨_,rfl⟩;rw[am]at ah;have b3:=Z am;clear am;go_upto_block 4 with(fail);go_cut [3,7] (fun O ai aa=> ∃c:Int,O=.int .i64 c∧0≤c∧c≤400000∧(c<100000→aw∧ ∀s∈n.words,S1 s)∧ag=aa);case first=>
     go_wp2_with fail;go_loopg [3,7] (n.words.length+1) (fun g O ai aa=> ∃(k:Nat) (c:Int),ai=.int .i64 k∧O=.int .i64 c∧k≤n.words.length∧g+k=n.words.length+1∧0≤c∧c≤400000∧(c<100000→aw∧ ∀s∈n.words.take k,S1 s)∧ag=aa);case atStart=>exact⟨0,_,rfl,rfl,DM _,rfl,by omega,by omega,fun N=>⟨ah.out N,fun s hs=>by simp at hs⟩,rfl⟩
     case round=>
      obtain⟨k,c,rfl,rfl,hk,W,K,L,J,M⟩:=hrel;subst M;have ac:=Z W;have X:=Z J;clear J W;by_cases I:k<n.words.length
      ·have q:decide ((k:Int)<(n.words.length:Int))=true:=At (by omega);have ae:decide (k<n.words.length)=true:=At I;by_cases z:c<100000
       ·have ab:decide (c<100000)=true:=At z;have bf:(0:Int)≤(k:Int)∧(k:Int)<(n.words.length:Int):=(by omega);have bg:(k:Int)+1≤9223372036854775807:=(by omega);obtain⟨bh,bi,aq,bj,ao⟩:=CQ.get a'.out k I;subst aq;obtain⟨s,hs⟩: ∃s,n.words[k]=s:=⟨_,rfl⟩;rw[hs]at ao;unfold sv at ao;obtain⟨F,aj⟩: ∃F:Int,min ((s.length:Nat):Int) 100000=F:=⟨_,rfl⟩;have ar:=Z aj;have bk:0≤F∧F≤100000:=(by omega);have ak:=Z (show c+2+F<100000→aw∧ ∀s∈n.words.take (k+1),S1 s from fun N=>⟨(X.out z).1,Ff I (X.out z).2 (by rw[hs];show s.length≤100000;omega)⟩);exact Z1X
       ·have ab:decide (c<100000)=false:=Aq z;have al:=Z (show c<100000→aw∧ ∀s∈n.words,S1 s from fun G=>Ai G z);exact Z20
      ·have q:decide ((k:Int)<(n.words.length:Int))=false:=Aq (by omega);have ae:decide (k<n.words.length)=false:=Aq I;have al:=Z (show c<100000→aw∧ ∀s∈n.words,S1 s from fun G=>⟨(X.out G).1,GO (i:=k) (by omega) (X.out G).2⟩);exact Z20
    case rest=>
    obtain⟨c,rfl,K,L,J,M⟩:=hcut;subst M;have ah:=Z J;clear J;obtain⟨ax,am⟩: ∃P:Prop,(aw∧ ∀s∈n.words,S1 s)=P:=⟨_,rfl⟩;rw[am]at ah;have b4:=Z am;clear am;go_upto_block 6 with(fail);go_cut [3,8] (fun O ai aa=> ∃c:Int,O=.int .i64 c∧0≤c∧c≤400000∧(c<100000→ax∧ ∀s∈n.AK,R1 s)∧ag.grownBy aa none);case first=>
     go_wp2_with fail;go_loopg [3,8] (n.AK.length+1) (fun g O ai aa=> ∃(k:Nat) (c:Int),ai=.int .i64 k∧O=.int .i64 c∧k≤n.AK.length∧g+k=n.AK.length+1∧0≤c∧c≤400000∧(c<100000→ax∧ ∀s∈n.AK.take k,R1 s)∧ag.grownBy aa none);case atStart=>exact⟨0,_,rfl,rfl,DM _,rfl,by omega,by omega,fun N=>⟨ah.out N,fun s hs=>by simp at hs⟩,AB ag none⟩
     case round=>
      obtain⟨k,c,rfl,rfl,hk,W,K,L,J,M⟩:=hrel;have aT:=Z M;have h:=Y.grown aR.out M (by simp);clear M aI aJ aK aL aM aN aO aP aQ;have aI:=Y.cell h 0;have aJ:=Y.cell h 1;have aK:=Y.cell h 2;have aL:=Y.cell h 3;have aM:=Y.cell h 4;have aN:=Y.cell h 5;have aO:=Y.cell h 6;have aP:=Y.cell h 7;have aQ:=Y.lt h;clear h;have ac:=Z W;have X:=Z J;clear J W;by_cases I:k<n.AK.length
      ·have q:decide ((k:Int)<(n.AK.length:Int))=true:=At (by omega);have ae:decide (k<n.AK.length)=true:=At I;by_cases z:c<100000
       ·have ab:decide (c<100000)=true:=At z;have bf:(0:Int)≤(k:Int)∧(k:Int)<(n.AK.length:Int):=(by omega);have bg:(k:Int)+1≤9223372036854775807:=(by omega);obtain⟨bh,bi,aq,bj,b5,bB,bC⟩:=MY.get (Cr.pf ba.out (PF.AL (n0:=n0) aT.out)) k I;subst aq;obtain⟨s,hs⟩: ∃s,n.AK[k]=s:=⟨_,rfl⟩;rw[hs]at b5 bB bC;unfold sv at bB bC;obtain⟨F,aj⟩: ∃F:Int,min ((s.op.length:Nat):Int) 100000=F:=⟨_,rfl⟩;obtain⟨ay,bD⟩: ∃ay:Int,min ((s.wd.length:Nat):Int) 100000=ay:=⟨_,rfl⟩;have ar:=Z aj;have b6:=Z bD;have bk:0≤F∧F≤100000:=(by omega);have cC:0≤ay∧ay≤100000:=(by omega);have ak:=Z (show c+4+F+ay<100000→ax∧ ∀s∈n.AK.take (k+1),R1 s from fun N=>⟨(X.out z).1,Ff I (X.out z).2 (by rw[hs];exact⟨show s.op.length≤100000 by omega,show s.wd.length≤100000 by omega⟩)⟩);have bl:=sz s.op;have cD:=sz s.wd;clear hs aj bD;go_upto_region 18 with(fail);refine wp_region_quiet_lit (by kernel_rfl) (by kernel_rfl) ?_;repeat(go_big_quiet_step (fail))
        refine wpQuiet_nil ?_;rintro _ ⟨nq,rfl⟩;go_wp2_with fail;rw[ar.out,b6.out];go_roundg (gk-1);case rel=>exact⟨k+1,c+4+F+ay,by rw[Int.natCast_add];rfl,rfl,I,by have:=ac.out;omega,by omega,by omega,ak.out,As aT.out nq⟩
        case measure=>have:=ac.out;omega
       ·have ab:decide (c<100000)=false:=Aq z;have al:=Z (show c<100000→ax∧ ∀s∈n.AK,R1 s from fun G=>Ai G z);go_wp2_with fail;go_meet;exact⟨c,rfl,K,L,al.out,aT.out⟩
      ·have q:decide ((k:Int)<(n.AK.length:Int))=false:=Aq (by omega);have ae:decide (k<n.AK.length)=false:=Aq I;have al:=Z (show c<100000→ax∧ ∀s∈n.AK,R1 s from fun G=>⟨(X.out G).1,GO (i:=k) (by omega) (X.out G).2⟩);go_wp2_with fail;go_meet;exact⟨c,rfl,K,L,al.out,aT.out⟩
    case rest=>
    obtain⟨c,rfl,K,L,J,M⟩:=hcut;have h:=Y.grown aR.out M (by simp);have aG:=Z (aG.out.pf (PF.AL (n0:=n0) M));have aB:=Z (AI aB.out M);clear M aI aJ aK aL aM aN aO aP aQ a9 a' ba aR;obtain⟨ag,b7⟩: ∃x,x=wc:=⟨_,rfl⟩;subst b7;have aI:=Y.cell h 0;have aJ:=Y.cell h 1;have aK:=Y.cell h 2;have aL:=Y.cell h 3;have aM:=Y.cell h 4;have aN:=Y.cell h 5;have aO:=Y.cell h 6;have aP:=Y.cell h 7;have aQ:=Y.lt h;have aR:=Z h;clear h;have ah:=Z J;clear J;obtain⟨bm,am⟩: ∃P:Prop,(ax∧ ∀s∈n.AK,R1 s)=P:=⟨_,rfl⟩;rw[am]at ah;have b8:=Z am;clear am;go_wp2_with fail;go_loopg [3,9] (n.AS.length+1) (fun g O ai aa=> ∃(k:Nat) (c:Int),ai=.int .i64 k∧O=.int .i64 c∧k≤n.AS.length∧g+k=n.AS.length+1∧0≤c∧4*(k:Int)≤c∧c≤400000∧(c<100000→bm∧ ∀s∈n.AS.take k,P1 s)∧ag=aa);case atStart=>exact⟨0,_,rfl,rfl,DM _,rfl,by omega,by omega,by omega,fun N=>⟨ah.out N,fun s hs=>by simp at hs⟩,rfl⟩
    case round=>
     clear K L;obtain⟨k,c,rfl,rfl,hk,W,K,bE,L,J,M⟩:=hrel;obtain⟨aC,bn⟩: ∃aC,aC=gk:=⟨_,rfl⟩;subst M;have ac:=Z (bn▸W:aC+k=n.AS.length+1);have bF:=Z bn;have X:=Z J;clear J W bn;by_cases I:k<n.AS.length
     ·have q:decide ((k:Int)<(n.AS.length:Int))=true:=At (by omega);have ae:decide (k<n.AS.length)=true:=At I;by_cases z:c<100000
      ·have ab:decide (c<100000)=true:=At z;have bf:(0:Int)≤(k:Int)∧(k:Int)<(n.AS.length:Int):=(by omega);have bg:(k:Int)+1≤9223372036854775807:=(by omega);obtain⟨cE,cF,u,b9,cG,cH,aU⟩:=E4.get aG.out k I;subst b9;obtain⟨p,bo⟩: ∃p,n.AS[k]=p:=⟨_,rfl⟩;rw[bo]at aU;obtain⟨pa,cI,rfl,b',ca⟩:=aU.at_;have cJ:(p.length:Int)≤9223372036854775807:=(by omega);have cb:=Z aU;have aV:=Z (A8 I (A8 bo (X.out z)));clear bo aU b' ca;go_wp2_with fail;go_loopg [3,10] (p.length+1) (fun g O ai aa=> ∃(m:Nat) (c:Int),ai=.int .i64 m∧O=.int .i64 c∧m≤p.length∧g+m=p.length+1∧0≤c∧4*((k:Int)+1)≤c∧4*(m:Int)≤c∧c≤400000∧(c<100000→ ∀s∈p.take m,S1 s)∧ag=aa);case atStart=>exact⟨0,_,rfl,rfl,DM _,rfl,by omega,by omega,by omega,by omega,fun N s hs=>by simp at hs,rfl⟩
       case round=>
        clear q ae ab z K L bE;obtain⟨m,c,rfl,rfl,cK,W,K,bE,cL,L,J,M⟩:=hrel;subst M;have bG:=Z W;have bH:=Z J;clear J W;by_cases aD:m<p.length
        ·have q:decide ((m:Int)<(p.length:Int))=true:=At (by omega);have ae:decide (m<p.length)=true:=At aD;by_cases z:c<100000
         ·have ab:decide (c<100000)=true:=At z;have cM:(0:Int)≤(m:Int)∧(m:Int)<(p.length:Int):=(by omega);have cN:(m:Int)+1≤9223372036854775807:=(by omega);obtain⟨bh,bi,aq,bj,ao⟩:=CQ.get cb.out m aD;subst aq;obtain⟨s,hs⟩: ∃s,p[m]=s:=⟨_,rfl⟩;rw[hs]at ao;unfold sv at ao;obtain⟨F,aj⟩: ∃F:Int,min ((s.length:Nat):Int) 100000=F:=⟨_,rfl⟩;have ar:=Z aj;have bk:0≤F∧F≤100000:=(by omega);have ak:=Z (show c+4+F<100000→ ∀s∈p.take (m+1),S1 s from fun N=>Ff aD (bH.out z) (by rw[hs];show s.length≤100000;omega));have bl:=sz s;clear hs aj;go_wp2_with fail;rw[ar.out];go_roundg (gk-1);case rel=>exact⟨m+1,c+4+F,by rw[Int.natCast_add];rfl,rfl,aD,by have:=bG.out;omega,by omega,by omega,by omega,by omega,ak.out,rfl⟩
          case measure=>have:=bG.out;omega
         ·have ab:decide (c<100000)=false:=Aq z;have ak:=Z (show c<100000→bm∧ ∀s∈n.AS.take (k+1),P1 s from fun G=>Ai G z);exact Z1Y
        ·have q:decide ((m:Int)<(p.length:Int))=false:=Aq (by omega);have ae:decide (m<p.length)=false:=Aq aD;have ak:=Z (show c<100000→bm∧ ∀s∈n.AS.take (k+1),P1 s from fun G=>⟨aV.out.2.2.1,Ff aV.out.1 aV.out.2.2.2 (by rw[aV.out.2.1];exact⟨by omega,GO (i:=m) (by omega) (bH.out G)⟩)⟩);exact Z1Y
      ·have ab:decide (c<100000)=false:=Aq z;have bp:=Z (show c<100000→ ∀m∈l.take (i+1),Qf m from fun G=>Ai G z);exact Z1Z
     ·have q:decide ((k:Int)<(n.AS.length:Int))=false:=Aq (by omega);have ae:decide (k<n.AS.length)=false:=Aq I;have bp:=Z (show c<100000→ ∀m∈l.take (i+1),Qf m from fun N=>by
       obtain⟨ap,bq⟩:=X.out N;have cc:n.AS.length≤100000:=(by omega);have bq:=GO (i:=k) (by omega) bq;rw[←b8.out]at ap;obtain⟨bI,cd⟩:=ap;rw[←b4.out]at bI;obtain⟨bJ,ce⟩:=bI;rw[←b3.out]at bJ;obtain⟨aW,cf⟩:=bJ;rw[←bZ.out]at aW;exact Ff (by have:=aY.out;omega) aW.1 (by rw[bT.out];exact⟨aW.2.1,aW.2.2,cf,ce,cd,cc,bq⟩))
      exact Z1Z
   ·have ab:decide (c<100000)=false:=Aq z;have bK:decide (100000≤c)=true:=At (by omega);clear aA;exact Z21
  ·have bM:decide ((i:Int)<(ad:Int))=false:=Aq (by omega);have ae:decide (i<ad)=false:=Aq bv;have cg:=Z (show c<100000→ ∀n∈l,Qf n from fun N=>GO (i:=i) (by have:=aY.out;omega) (bu.out N));clear aA;by_cases z:c<100000
   ·have bK:decide (100000≤c)=false:=Aq (by omega);have ch:=Z (cg.out z);go_wp2_with fail;go_ret;exact⟨⟨false,rfl,fun _=>ch.out⟩,aF.out⟩
   ·have bK:decide (100000≤c)=true:=At (by omega);exact Z21
end
end Go.Proofs.YtdhfhphbkfgamaaGreat
