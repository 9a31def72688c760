/- A part. -/
import Derived.SliceStrings
import Derived.Test.YtdhfhphbkfgamaaGreatKc
import Derived.Test.YtdhfhphbkfgamaaGreatUk
import Derived.Test.YtdhfhphbkfgamaaGreatUl
set_option maxRecDepth 100000
set_option linter.all false
set_option maxHeartbeats 0
namespace Go.Proofs.YtdhfhphbkfgamaaGreat
section
open Go.RowKit Lx Proofs.Tryz
theorem FX:(prog.info? 4).map (fun i=>(i.zero,i.size,i.bytes))=some (some (.bool false),1,1):=by kernel_rfl
theorem KQ(W:World)(b:Nat)(x:Bool)(z:W.heap.size=b):Src prog 1 48 (.slice (some ⟨b,0,none⟩) 1 1) 1 [.bool x] (W.alloc (.cells #[.bool x] 4)):=by
 subst z;exact Own.src (P:=prog) (tx:=48) (e':=4) (n:=1) (xs:=[.bool x]) (k:=0) (e:=4) ⟨rfl,.inr ⟨W.heap.size,0,1,_,(0,0),rfl,Y.new W 4 _,BN _,BN _,by unfold maxLen;omega,by show 0+1*1<=1;omega,fun j G=>(by(have F:j=0:=by omega);subst F;rfl)⟩⟩ (by kernel_rfl) (by intro u h;simp at h;subst h;rfl)
structure K3(w0 w:World)(vt vb va:Value)(t:List (List UInt8))(b a:List Bool):Prop where
 t:Own w 9 1 vt t.length (t.map sv) 0
 b:Own w 4 1 vb b.length (b.map Value.bool) 0
 a:Own w 4 1 va a.length (a.map Value.bool) 0
 tn:∀k,vt.ownBlock=some k->w0.heap.size<=k
 bn:∀k,vb.ownBlock=some k->w0.heap.size<=k
 an:∀k,va.ownBlock=some k->w0.heap.size<=k
 ba:∀k,vb.ownBlock=some k->va.ownBlock≠some k
 g:w0.grownBy w none
section
variable {w0 w W wA:World}{vt vb va vA:Value}{t:List (List UInt8)}{b a:List Bool}
theorem K3.nil(w0:World):K3 w0 w0 (.slice none 0 0) (.slice none 0 0) (.slice none 0 0) [] [] []:=
 ⟨Own.nil _ _ _ _,Own.nil _ _ _ _,Own.nil _ _ _ _,fun k h=>(by cases h),fun k h=>(by cases h),fun k h=>(by cases h),fun k h=>(by cases h),AB _ _⟩
theorem K3.TH(h:K3 w0 W vt vb va t b a)(o:Obj)(x:List UInt8)(F:Own wA 9 1 vA (t.length+1) (t.map sv++[sv x]) 0)(z:Az (fun k=>vt.ownBlock=some k) (W.alloc o) wA)(G:∀k,vA.ownBlock=some k->vt.ownBlock=some k\/(W.alloc o).heap.size<=k):K3 w0 wA vA vb va (t++[x]) b a where
 t:=by rw[BG,FN];exact F
 b:=(h.b.alloc o).Bo z fun k hk hs=>Aj ((Own.AO (h.t.alloc o) hs).uniq (Own.AO (h.b.alloc o) hk)) (by decide)
 a:=(h.a.alloc o).Bo z fun k hk hs=>Aj ((Own.AO (h.t.alloc o) hs).uniq (Own.AO (h.a.alloc o) hk)) (by decide)
 tn:=fun k hk=>(G k hk).elim (h.tn k) fun e=>E0 (AF h.g o).size e
 bn:=h.bn
 an:=h.an
 ba:=h.ba
 g:=J5 (AF h.g o) z fun k hk=>h.tn k hk
theorem K3.Mb(h:K3 w0 W vt vb va t b a)(o:Obj)(x:Bool)(I:Own wA 4 1 vA (b.length+1) (b.map Value.bool++[.bool x]) 0)(z:Az (fun k=>vb.ownBlock=some k) (W.alloc o) wA)(F:∀k,vA.ownBlock=some k->vb.ownBlock=some k\/(W.alloc o).heap.size<=k):K3 w0 wA vt vA va t (b++[x]) a where
 t:=(h.t.alloc o).Bo z fun k hk hs=>Aj ((Own.AO (h.b.alloc o) hs).uniq (Own.AO (h.t.alloc o) hk)) (by decide)
 b:=by rw[BG,FN];exact I
 a:=(h.a.alloc o).Bo z fun k hk hs=>h.ba k hs hk
 tn:=h.tn
 bn:=fun k hk=>(F k hk).elim (h.bn k) fun e=>E0 (AF h.g o).size e
 an:=h.an
 ba:=fun k hk G=>(F k hk).elim (fun e=>h.ba k e G) fun e=>by have:=Own.lt (h.a.alloc o) G;omega
 g:=J5 (AF h.g o) z fun k hk=>h.bn k hk
theorem K3.Xe(h:K3 w0 W vt vb va t b a)(o:Obj)(x:Bool)(G:Own wA 4 1 vA (a.length+1) (a.map Value.bool++[.bool x]) 0)(z:Az (fun k=>va.ownBlock=some k) (W.alloc o) wA)(F:∀k,vA.ownBlock=some k->va.ownBlock=some k\/(W.alloc o).heap.size<=k):K3 w0 wA vt vb vA t b (a++[x])where
 t:=(h.t.alloc o).Bo z fun k hk hs=>Aj ((Own.AO (h.a.alloc o) hs).uniq (Own.AO (h.t.alloc o) hk)) (by decide)
 b:=(h.b.alloc o).Bo z fun k hk hs=>h.ba k hk hs
 a:=by rw[BG,FN];exact G
 tn:=h.tn
 bn:=h.bn
 an:=fun k hk=>(F k hk).elim (h.an k) fun e=>E0 (AF h.g o).size e
 ba:=fun k hk I=>(F k I).elim (fun e=>h.ba k hk e) fun e=>by have:=Own.lt (h.b.alloc o) hk;omega
 g:=J5 (AF h.g o) z fun k hk=>h.an k hk
theorem K3.EO(h:K3 w0 w vt vb va t b a)(z:w.grownBy W none):K3 w0 W vt vb va t b a:=
 ⟨Gj z h.t,Gj z h.b,Gj z h.a,h.tn,h.bn,h.an,h.ba,AI h.g z⟩
end
structure AE(w0 w:World)(vt vb:Value)(t:List (List UInt8))(b:List Bool):Prop where
 t:Own w 9 1 vt t.length (t.map sv) 0
 b:Own w 4 1 vb b.length (b.map Value.bool) 0
 tn:∀k,vt.ownBlock=some k->w0.heap.size<=k
 bn:∀k,vb.ownBlock=some k->w0.heap.size<=k
 g:w0.grownBy w none
section
variable {w0 w W wA:World}{vt vb vA:Value}{t:List (List UInt8)}{b:List Bool}
theorem AE.nil(w0:World):AE w0 w0 (.slice none 0 0) (.slice none 0 0) [] []:=
 ⟨Own.nil _ _ _ _,Own.nil _ _ _ _,fun k h=>(by cases h),fun k h=>(by cases h),AB _ _⟩
theorem AE.TH(h:AE w0 W vt vb t b)(o:Obj)(x:List UInt8)(F:Own wA 9 1 vA (t.length+1) (t.map sv++[sv x]) 0)(z:Az (fun k=>vt.ownBlock=some k) (W.alloc o) wA)(G:∀k,vA.ownBlock=some k->vt.ownBlock=some k\/(W.alloc o).heap.size<=k):AE w0 wA vA vb (t++[x]) b where
 t:=by rw[BG,FN];exact F
 b:=(h.b.alloc o).Bo z fun k hk hs=>Aj ((Own.AO (h.t.alloc o) hs).uniq (Own.AO (h.b.alloc o) hk)) (by decide)
 tn:=fun k hk=>(G k hk).elim (h.tn k) fun e=>E0 (AF h.g o).size e
 bn:=h.bn
 g:=J5 (AF h.g o) z fun k hk=>h.tn k hk
theorem AE.Mb(h:AE w0 W vt vb t b)(o:Obj)(x:Bool)(F:Own wA 4 1 vA (b.length+1) (b.map Value.bool++[.bool x]) 0)(z:Az (fun k=>vb.ownBlock=some k) (W.alloc o) wA)(G:∀k,vA.ownBlock=some k->vb.ownBlock=some k\/(W.alloc o).heap.size<=k):AE w0 wA vt vA t (b++[x])where
 t:=(h.t.alloc o).Bo z fun k hk hs=>Aj ((Own.AO (h.b.alloc o) hs).uniq (Own.AO (h.t.alloc o) hk)) (by decide)
 b:=by rw[BG,FN];exact F
 tn:=h.tn
 bn:=fun k hk=>(G k hk).elim (h.bn k) fun e=>E0 (AF h.g o).size e
 g:=J5 (AF h.g o) z fun k hk=>h.bn k hk
theorem AE.EO(h:AE w0 w vt vb t b)(z:w.grownBy W none):AE w0 W vt vb t b:=
 ⟨Gj z h.t,Gj z h.b,h.tn,h.bn,AI h.g z⟩
end
theorem KX{w:World}{e:TypeId}{v:Value}{xs:List Value}{n:Nat}(F:Own w e 1 v n xs 0)(i:Nat)(K:i<n)(x:Value)(hx:xs[i]? =some x):∃g h z,v=.slice (some ⟨g,h,none⟩) n z/\g<w.heap.size/\w.cell? ⟨g,h+i,none⟩=some x:=by
 obtain⟨g,h,z,G,_,_,I,J⟩:=F.some_ (by omega);exact⟨g,h,z,G,I,by rw[J i (by omega)];exact hx⟩
section
variable {l:List V}
theorem N9:∀m,(Ch l m).1.length=m
 |0=>rfl
 |m+1=>by rw[Ch];simp[N9 m]
theorem NR:∀m,(Ch l m).2.length=m
 |0=>rfl
 |m+1=>by rw[Ch];simp[NR m]
theorem Q7(n:V)(t:List (List UInt8))(b a:List Bool)(e:Bool):(IT n t b a e).length<=8192:=by unfold IT;exact It _
theorem Rg:∀m,∀s∈(Ch l m).1,s.length<=8192
 |0,s,h=>by simp[Ch]at h
 |m+1,s,h=>by
  rw[Ch]at h;rcases List.mem_append.1 h with h|h
  ·exact Rg m s h
  ·rw[List.mem_singleton.1 h];exact Q7 _ _ _ _ _
theorem Uf{A:List (List UInt8)}(z:∀s∈A,s.length<=8192)(i:Nat):(A.getD i []).length<=8192:=by
 by_cases h:i<A.length
 ·rw[show A.getD i []=A[i] by simp[h]];exact z _ (Cp h)
 ·rw[show A.getD i []=[] by simp[h]];exact DD _
theorem TJ{A:List (List UInt8)}(h:∀s∈A,s.length<=8192)(n:V):∀s∈Ez A n,Gk s:=by
 intro s hs;unfold Ez at hs;obtain⟨k,_,rfl⟩:=List.mem_map.1 hs;unfold Gk;split
 ·exact DD _
 ·have:=Uf h k.toNat;omega
theorem JL{A:List (List UInt8)}(n:V):(Ez A n).length=n.kids.length:=by unfold Ez;simp
theorem Jn(n:V):(EE l n).length=n.kids.length:=by unfold EE;simp
theorem JI{E:List Bool}(n:V):(C7 E n).length=n.kids.length:=by unfold C7;simp
theorem Qo{A:List (List UInt8)}(n:V)(r:Nat)(h:r<n.kids.length):(Ez A n).take (r+1)=(Ez A n).take r++[if n.kids[r]<0 then []else A.getD (n.kids[r]).toNat []]:=by
 rw[Du (by rw[JL];exact h)];congr 2
 unfold Ez;simp
theorem ON(n:V)(r:Nat)(h:r<n.kids.length):(EE l n).take (r+1)=(EE l n).take r++[if n.kids[r]<0 then false else(Jv l n.kids[r]).kind==7]:=by
 rw[Du (by rw[Jn];exact h)];congr 2
 unfold EE;simp
theorem NJ{E:List Bool}(n:V)(r:Nat)(h:r<n.kids.length):(C7 E n).take (r+1)=(C7 E n).take r++[if n.kids[r]<0 then false else E.getD (n.kids[r]).toNat false]:=by
 rw[Du (by rw[JI];exact h)];congr 2
 unfold C7;simp
theorem TF(i:Nat)(h:i<l.length)(n:V)(z:l[i]=n):Ch l (i+1)=((Ch l i).1++[IT n (Ez (Ch l i).1 n) (EE l n) (C7 (Ch l i).2 n) (Dm l n)],(Ch l i).2++[Lf l n]):=by
 rw[Ch,show l.getD i QT=n by rw[<-z];simp[h]]
end
end
open Go.RowKit Lx Proofs.Tryz
def S1(s:List UInt8):Prop:=s.length<=100000
def P1(p:List (List UInt8)):Prop:=p.length<=100000/\ ∀s∈p,S1 s
def R1(r:Rd):Prop:=S1 r.op/\S1 r.wd
structure RE(n:V):Prop where
 name:S1 n.name
 kids:n.kids.length<=100000
 AZ:∀s∈n.AZ,S1 s
 words:∀s∈n.words,S1 s
 DJ:∀r∈n.AK,R1 r
 AT:n.AT.length<=100000
 pat:∀p∈n.AT,P1 p
theorem Pj:∀p:List (List UInt8),(∀s∈p,S1 s)->(Cs p).length<=p.length*100003
 |[],_=>DD _
 |[s],h=>by
  have:=h s (En ..);unfold S1 at this;show s.length<=1*100003;omega
 |s::t::r,h=>by
  have z:=h s (En ..);have F:=Pj (t::r) fun x hx=>h x (List.mem_cons_of_mem _ hx)
  unfold S1 at z;show(s++[32,124,32]++Cs (t::r)).length<=_;rw[BG,BG];simp only[BR,CU]at F⊢;omega
theorem RE.XG{n:V}(h:RE n):Qn n:=by
 refine⟨fun s hs=>E0 (h.words s hs) (by decide),fun p G=>?_,fun r I=>?_⟩
 ·obtain⟨F,z⟩:=h.pat p G;have J:=Pj p z;omega
 ·obtain⟨F,z⟩:=h.DJ r I;exact⟨E0 F (by decide),E0 z (by decide)⟩
theorem Fz{α:Type}{Q:α->Prop}{xs:List α}{i:Nat}(z:i<xs.length)(F:∀x∈xs.take i,Q x)(hx:Q xs[i]):∀x∈xs.take (i+1),Q x:=by
 rw[Du z];intro x h;rcases List.mem_append.1 h with h|h
 ·exact F x h
 ·rw[List.mem_singleton.1 h];exact hx
theorem Gu{α:Type}{Q:α->Prop}{xs:List α}{i:Nat}(z:xs.length<=i)(h:∀x∈xs.take i,Q x):∀x∈xs,Q x:=by
 rw[List.take_of_length_le z]at h;exact h
section
open Go.ChangeShapes Go.WideShapes Go.ChangeAt Go.RowKit Go.Deep Lx Proofs.Tryz
theorem MD{α:Type}{Q:Nat->α->Prop} :∀(n:Nat),(∀i,i<n-> ∃y,Q i y)-> ∃h:List α,h.length=n/\ ∀i (z:i<h.length),Q i h[i]
 |0,_=>⟨[],rfl,fun i z=>Aj z (Nat.not_lt_zero i)⟩
 |n+1,z=>by
  obtain⟨h,G,J⟩:=MD n fun i F=>z i (Nat.lt_succ_of_lt F)
  obtain⟨y,hy⟩:=z n (Nat.lt_succ_self n);refine⟨h++[y],by rw[BG,G];rfl,fun i F=>?_⟩;by_cases I:i<h.length
  ·rw[List.getElem_append_left I];exact J i I
  ·rw[BG,Cj]at F;obtain rfl:i=h.length:=by omega
   rw[List.getElem_append_right (BN _)];simpa [G]using hy
theorem PY{α:Type}{f:α->List Value}{c:Nat}(G:∀x,(f x).length=c){v:Value} :∀(F:List α) (z:Nat),(F.flatMap f)[z]? =some v-> ∃i,∃h:i<F.length,∃j,j<c/\z=i*c+j/\(f F[i])[j]? =some v
 |[],z,h=>by simp at h
 |y::F,z,h=>by
  rw[List.flatMap_cons]at h;by_cases I:z<(f y).length
  ·rw[Gx I]at h;exact⟨0,by simp,z,by rw[<-G y];exact I,by omega,h⟩
  ·rw[Ig (by omega)]at h;obtain⟨i,L,j,J,e,K⟩:=PY G F _ h;refine⟨i+1,by simp;omega,j,J,?_,K⟩;have:=G y;rw[Nat.add_mul];omega
theorem Kl{α:Type}(f:α->Value):∀h:List α,h.flatMap (fun s=>[f s])=h.map f
 |[]=>rfl
 |x::h=>by rw[List.flatMap_cons,Kl f h];rfl
theorem LF{α:Type}{f:α->List Value}{c:Nat}(F:∀x,(f x).length=c):∀(h:List α) (i j:Nat) (z:i<h.length),j<c->(h.flatMap f)[i*c+j]? =(f h[i])[j]?
 |[],i,j,z,_=>by simp at z
 |y::h,0,j,z,G=>by
  rw[List.flatMap_cons,Gx (by rw[F];omega)];simp
 |y::h,i+1,j,z,G=>by
  rw[List.flatMap_cons,Ig (by rw[F,Nat.add_mul];omega),F,Nat.add_mul];rw[show i*c+1*c+j-c=i*c+j by omega];exact LF F h i j (by simpa using z) G
section
variable {H:Type}{enc:TypeId×Value->H}{W:World}
theorem Gn{α:Type}(f:α->List Value)(c:Nat)(ac:∀x,(f x).length=c)(R:α->Prop){t e:TypeId}{fuel:Nat}{cs:List Value}{x:DataW H×List MemPlace}(ad:prog.underlying t=some (.slice e))(ae:prog.cellsOf e=c)(G:0<c)
  (J:DataW.trod enc prog W 0 (fun _=>true) true fuel t cs=some x) (O:∀q∈x.2,q.block<W.heap.size)
  (af:∀n F y,F.length=c->DataW.trod enc prog W 0 (fun _=>true) true n e F=some y->(∀q∈y.2,q.block<W.heap.size)-> ∃x,F=f x/\R x):
  ∃a K,∃z:List α,cs=[.slice a z.length K]/\Rows W (.slice a z.length K) z.length (z.flatMap f)/\ ∀x∈z,R x:=by
 rcases open_slice ad J with⟨L,hx⟩|⟨a,ag,K,m,n,D,ah,L,_,ai,aj,X,hx,M⟩
 ·exact⟨none,0,[],L,⟨none,0,rfl,BN _,by simp,fun J=>Aj J (by simp)⟩,by simp⟩
 ·simp only[if_true]at X;subst X;rw[ae]at M hx;have aa:x.2=MemPlace.row a (m*c)++(List.range m).flatMap ah:=congrArg Prod.snd hx;obtain⟨z,ak,ab⟩:=MD (Q:=fun i x=>R x/\ ∀g h,a=⟨g,h,none⟩-> ∀j,j<c->W.cell? ⟨g,h+(i*c+j),none⟩=(f x)[j]?) ag fun i I=>by
   obtain⟨F,al,am⟩:=M i (by omega);obtain⟨_,an,ao⟩:=World.cells?_some al;obtain⟨y,rfl,ap⟩:=af n F _ an am fun q aq=>O q (by
    rw[aa];exact List.mem_append_right _ (List.mem_flatMap.2 ⟨i,List.mem_range.2 (by omega),aq⟩))
   refine⟨y,ap,fun g h ar j N=>?_⟩;subst ar;rw[<-ao j N,Addr.add_lit,Addr.add_lit,Nat.add_assoc]
  subst ak;refine⟨some a,m,z,L,⟨some a,m,rfl,ai,by unfold maxLen at aj;omega,fun aA=>?_⟩,fun x hx=>?_⟩
  ·obtain⟨aB,au,aC⟩:=M 0 (by omega);obtain⟨_,aD,aw⟩:=World.cells?_some au;obtain⟨b,h,rfl⟩:∃b h,a=⟨b,h,none⟩:=by
    have G:=aw 0 (by omega);rw[CZ (by omega),Go.Deep.add_add]at G;exact On (by simpa using G)
   refine⟨b,h,rfl,?_,fun ax v ay=>?_⟩
   ·refine O (MemPlace.cell b h) ?_;rw[aa];exact List.mem_append_left _ (Th (Nat.mul_pos (by omega) G))
   ·obtain⟨i,I,j,N,rfl,az⟩:=PY ac z ax ay;rw[(ab i I).2 b h rfl j N];exact az
  ·obtain⟨i,I,rfl⟩:=List.getElem_of_mem hx;exact(ab i I).1
theorem Nb{h:World}{z:Nat}{v:Value}{n:Nat}{cs:List Value}(F:Rows W v n cs)(G:W.grownBy h none)(I:h.heap.size<=z):Cz z h v n cs:=fun _ J=>EY F (AI G (J.below I))
theorem Gs{v:Value}{n:Nat}{cs:List Value}(h:Rows W v n cs):Cz W.heap.size W v n cs:=Nb h (AB W none) (BN _)
theorem Cz.old{n0:Nat}{h:World}{z:Nat}{v:Value}{n:Nat}{cs:List Value}(F:Cz n0 W v n cs)(G:W.grownBy h none)(I:h.heap.size<=z):Cz z h v n cs:=Nb F.now G I
theorem FP.old{n0:Nat}{h:World}{z:Nat}{v:Value}{l:List (List (List UInt8))}(I:FP n0 W v l)(F:W.grownBy h none)(G:h.heap.size<=z):FP z h v l:=by
 obtain⟨cs,J,K⟩:=I;exact⟨cs,J.old F G,fun i L=>by obtain⟨u,M,hs⟩:=K i L;exact⟨u,M,Cz.old hs F G⟩⟩
theorem Dj.old{n0:Nat}{F:World}{G:Nat}{v:Value}{l:List V}(I:Dj n0 W v l)(h:W.grownBy F none)(z:F.heap.size<=G):Dj G F v l:=by
 obtain⟨cs,J,K⟩:=I;refine⟨cs,J.old h z,fun i L=>?_⟩;obtain⟨a,b,r,p,k,e,hs⟩:=K i L;exact⟨a,b,r,p,k,e,Cz.old hs.AZ h z,Cz.old hs.words h z,Cz.old hs.DJ h z,hs.AT.old h z,Cz.old hs.kids h z⟩
variable {fuel:Nat}{cs:List Value}{x:DataW H×List MemPlace}
theorem MY(F:DataW.trod enc prog W 0 (fun _=>true) true fuel 27 cs=some x)(G:∀q∈x.2,q.block<W.heap.size):∃v,∃h:List (List UInt8),cs=[v]/\CW W.heap.size W v h:=by
 obtain⟨a,J,h,I,z,_⟩:=Gn (fun s:List UInt8=>[sv s]) 1 (fun _=>rfl) (fun _=>True) underlying27 (by kernel_rfl) (by omega) F G fun n K y _ hy _=>by
  obtain⟨s,hs,_⟩:=DataW.trod_string underlying9 hy;exact⟨s.data.toList,by rw[hs];simp[sv],trivial⟩
 rw[Kl sv]at z;exact⟨_,h,I,Gs z⟩
theorem TO(F:DataW.trod enc prog W 0 (fun _=>true) true fuel 30 cs=some x)(G:∀q∈x.2,q.block<W.heap.size):∃v,∃h:List Int,cs=[v]/\E9 W.heap.size W v h:=by
 obtain⟨a,J,h,I,z,_⟩:=Gn (fun s:Int=>[Value.int .i64 s]) 1 (fun _=>rfl) (fun _=>True) underlying30 (by kernel_rfl) (by omega) F G fun n K y _ hy _=>by
  obtain⟨s,hs,_⟩:=DataW.trod_int underlying3 hy;exact⟨s,hs,trivial⟩
 rw[Kl (Value.int .i64)]at z;exact⟨_,h,I,Gs z⟩
theorem Yg{h:List Value}(I:h.length=3){a b c:Value}(z:h[0]? =some a)(F:h[1]? =some b)(G:h[2]? =some c):h=[a,b,c]:=by
 match h,I with
 |[x,y,J],_=>
  simp at z F G;subst z F G;rfl
theorem YY{h:List Value}(N:h.length=8){a b c d e f g k:Value}(z:h[0]? =some a)(F:h[1]? =some b)(G:h[2]? =some c)(I:h[3]? =some d)(J:h[4]? =some e)(K:h[5]? =some f)(L:h[6]? =some g)(M:h[7]? =some k):h=[a,b,c,d,e,f,g,k]:=by
 match h,N with
 |[O,X,aa,ab,ac,ad,ae,af],_=>
  simp at z F G I J K L M;subst z F G I J K L M;rfl
theorem WI(I:DataW.trod enc prog W 0 (fun _=>true) true fuel 28 cs=some x)(J:∀q∈x.2,q.block<W.heap.size):∃v,∃h:List Rd,cs=[v]/\Mu W.heap.size W v h:=by
 obtain⟨a,ad,h,K,L,_⟩:=Gn Rd.cells 3 (fun _=>rfl) (fun _=>True) underlying28 (by kernel_rfl) (by omega) I J fun n ae y M hy _=>by
  obtain⟨z,m,_,_,_,F,G⟩:=DataW.trod_struct underlying34 hy;have t0:=G 0 _ rfl;have t1:=G 1 _ rfl;have t2:=G 2 _ rfl;rw[CZ (show 0<z.length by rw[F];decide)]at t0;rw[CZ (show 1<z.length by rw[F];decide)]at t1;rw[CZ (show 2<z.length by rw[F];decide)]at t2;obtain⟨N,O,_⟩:=DataW.trod_int underlying3 t0;obtain⟨X,aa,_⟩:=DataW.trod_string underlying9 t1;obtain⟨ab,ac,_⟩:=DataW.trod_string underlying9 t2;exact⟨⟨N,X.data.toList,ab.data.toList⟩,by rw[Yg M (Dy O) (Dy aa) (Dy ac)];simp[Rd.cells,sv],trivial⟩
 exact⟨_,h,K,Gs L⟩
theorem UP(F:DataW.trod enc prog W 0 (fun _=>true) true fuel 29 cs=some x)(G:∀q∈x.2,q.block<W.heap.size):∃v,∃h:List (List (List UInt8)),cs=[v]/\FP W.heap.size W v h:=by
 obtain⟨a,O,h,I,J,K⟩:=Gn (fun s:Value×List (List UInt8)=>[s.1]) 1 (fun _=>rfl) (fun s=>CW W.heap.size W s.1 s.2) underlying29 (by kernel_rfl) (by omega) F G fun n X y _ hy L=>by
  obtain⟨v,M,N,hs⟩:=MY hy L;exact⟨(v,M),N,hs⟩
 refine⟨_,h.map (·.2),I,h.flatMap (fun s:Value×List (List UInt8)=>[s.1]),by rw[List.length_map];exact Gs J,fun i z=>?_⟩;rw[List.length_map]at z;refine⟨h[i].1,?_,?_⟩
 ·have:=LF (f:=fun s:Value×List (List UInt8)=>[s.1]) (c:=1) (fun _=>rfl) h i 0 z (by omega);simpa using this
 ·rw[List.getElem_map];exact K _ (Cp z)
structure YJ where
 n:V
 a:Value
 b:Value
 r:Value
 p:Value
 k:Value
theorem Ue{v:Value}{d:DataW H}{p:List MemPlace}(h:DataW.Trod enc prog W 0 (fun _=>true) true 22 v d p)(ab:∀x∈p,x.block<W.heap.size)(ac:∃a ad J,v=.slice a ad J):∃l:List V,Dj W.heap.size W v l:=by
 obtain⟨ae,af,ag,rfl⟩:=ac;obtain⟨fuel,h⟩:=h;obtain⟨a,J,F,ah,ai,aj⟩:=Gn (fun s:YJ=>AU s.n s.a s.b s.r s.p s.k) 8 (fun _=>rfl) (fun s=>Fk W.heap.size W s.a s.b s.r s.p s.k s.n) underlying22 (by kernel_rfl) (by omega) h ab fun n aT y ak hy al=>by
  obtain⟨z,m,_,hx,_,G,h⟩:=DataW.trod_struct underlying32 hy;have I:∀i (L:i<z.length),∀q∈z[i].2,q.block<W.heap.size:=fun i L q am=>al q (by rw[hx];exact List.mem_flatMap.2 ⟨z[i],Cp L,am⟩)
  have an:0<z.length:=(by rw[G];decide);have t0:=h 0 _ rfl;rw[CZ an]at t0;have ao:1<z.length:=(by rw[G];decide);have t1:=h 1 _ rfl;rw[CZ ao]at t1;have ap:2<z.length:=(by rw[G];decide);have t2:=h 2 _ rfl;rw[CZ ap]at t2;have M:3<z.length:=(by rw[G];decide);have t3:=h 3 _ rfl;rw[CZ M]at t3;have N:4<z.length:=(by rw[G];decide);have t4:=h 4 _ rfl;rw[CZ N]at t4;have O:5<z.length:=(by rw[G];decide);have t5:=h 5 _ rfl;rw[CZ O]at t5;have X:6<z.length:=(by rw[G];decide);have t6:=h 6 _ rfl;rw[CZ X]at t6;have aa:7<z.length:=(by rw[G];decide);have t7:=h 7 _ rfl;rw[CZ aa]at t7;obtain⟨aq,ar,_⟩:=DataW.trod_int underlying3 t0;obtain⟨au,aw,_⟩:=DataW.trod_string underlying9 t1;obtain⟨ax,ay,_⟩:=DataW.trod_bool underlying4 t2;obtain⟨z3,az,aA,s3⟩:=MY t3 (I 3 M);obtain⟨aB,aC,aD,aE⟩:=MY t4 (I 4 N);obtain⟨aF,aG,aH,aI⟩:=WI t5 (I 5 O);obtain⟨aJ,aK,aL,aM⟩:=UP t6 (I 6 X);obtain⟨aN,aO,aP,aQ⟩:=TO t7 (I 7 aa);refine⟨⟨⟨aq,au.data.toList,ax,az,aC,aG,aK,aO⟩,z3,aB,aF,aJ,aN⟩,?_,⟨s3,aE,aI,aM,aQ⟩⟩;rw[YY ak (Dy ar) (Dy aw) (Dy ay) (Dy aA) (Dy aD) (Dy aH) (Dy aL) (Dy aP)];simp[AU,sv]
 have aR:Value.slice ae af ag=.slice a F.length J:=(by simpa [Value.cells]using ah);rw[aR];refine⟨F.map (·.n),F.flatMap (fun s:YJ=>AU s.n s.a s.b s.r s.p s.k),by rw[List.length_map];exact Gs ai,fun i K=>?_⟩;rw[List.length_map]at K;refine⟨F[i].a,F[i].b,F[i].r,F[i].p,F[i].k,fun j aS=>?_,?_⟩
 ·rw[LF (f:=fun s:YJ=>AU s.n s.a s.b s.r s.p s.k) (c:=8) (fun _=>rfl) F i j K aS,List.getElem_map]
 ·rw[List.getElem_map];exact aj _ (Cp K)
end
end
def WC(l:List V)(w:World)(e:Ending)(w':World):Prop:=(∃b,e=.returned (.bool b)/\(b=false-> ∀n∈l,RE n))/\w.grownBy w' none
theorem Pr(n0:Nat)(l:List V)(v:Value)(w:World)(G:Dj n0 w v l):Calls prog 5 #[v] w (WC l w):=by
 obtain⟨ci,cj,rfl,bq⟩:=G.form;have br:=Z G;obtain⟨al,aV⟩:=U l.length;rw[aV]at bq br⊢;have aW:=Z aV;have ck:(al:Int)<=9223372036854775807:=(by omega);clear G aV bq;go_enter func5,ntmps5;go_wp2_with fail;go_loopg [3,4] (al+1) (fun g O bL wr=> ∃(i:Nat) (c:Int),bL=.int .i64 i/\O=.int .i64 c/\i<=al/\g+i=al+1/\0<=c/\c<=400000/\(c<100000-> ∀n∈l.take i,RE n)/\w.grownBy wr none);case atStart=>exact⟨0,0,rfl,rfl,DD _,rfl,by omega,by omega,fun _ n az=>by simp at az,AB _ _⟩
 case round=>
  obtain⟨i,c,rfl,rfl,cl,W,K,L,bs,aA⟩:=hrel;have aD:=Z W;have aE:=Z aA;have bt:=Z bs;clear bs W;by_cases bu:i<al
  ·have bM:decide ((i:Int)<(al:Int))=true:=Au (by omega);have ad:decide (i<al)=true:=Au bu;by_cases z:c<100000
   ·have ab:decide (c<100000)=true:=Au z;have bN:i<l.length:=(by have:=aW.out;omega);obtain⟨g,cm,cn,co,cp,cq,cr,cs,bO,-,-,bP,ae,u0,u1,u2,u3,u4,u5,u6,u7⟩:=(br.out.pf (PF.AL (n0:=n0) aA)).at_ i bN;injection bO with bQ bR bS;subst bQ;subst bS;clear bR;obtain⟨n,az⟩:=U (l[i]);rw[az]at ae u0 u1 u2;have bT:=Z (show∀G:i<l.length,l[i]=n from fun _=>az);obtain⟨aX,aY,aZ,a0,a1,a2,a3,a4,a5,a6,rfl,rfl,rfl,rfl,rfl⟩:=ae.C5;have ct:(0:Int)<=(i:Int)/\(i:Int)<(al:Int):=(by omega);have cu:(i:Int)+1<=9223372036854775807:=(by omega);have cv:(n.AZ.length:Int)<=9223372036854775807:=(by obtain⟨_,_,_,_,ap,_⟩:=ae.AZ.now;omega);have cw:(n.words.length:Int)<=9223372036854775807:=(by obtain⟨_,_,_,_,ap,_⟩:=ae.words.now;omega);have cx:(n.AK.length:Int)<=9223372036854775807:=(by obtain⟨_,_,_,_,ap,_⟩:=ae.DJ.now;omega);have cy:(n.kids.length:Int)<=9223372036854775807:=(by obtain⟨_,_,_,_,ap,_⟩:=ae.kids.now;omega);have cz:(n.AT.length:Int)<=9223372036854775807:=(by obtain⟨_,_,_,ap⟩:=ae.AT.form;omega);have bU:=Z (bt.out z);have au:=AF (AB wr none) (.cells #[.int .i64 n.kind,.string ⟨n.name.toArray⟩,.bool n.A7,.slice aX n.AZ.length aY,.slice aZ n.words.length a0,.slice a1 n.AK.length a2,.slice a3 n.AT.length a4,.slice a5 n.kids.length a6] 32);have h:=Y.new wr 32 #[.int .i64 n.kind,.string ⟨n.name.toArray⟩,.bool n.A7,.slice aX n.AZ.length aY,.slice aZ n.words.length a0,.slice a1 n.AK.length a2,.slice a3 n.AT.length a4,.slice a5 n.kids.length a6];have a7:=Z (Cz.pf ae.AZ (PF.AL (n0:=n0) au):CW n0 _ _ _);have a8:=Z (Cz.pf ae.words (PF.AL (n0:=n0) au):CW n0 _ _ _);have a9:=Z (Cz.pf ae.DJ (PF.AL (n0:=n0) au):Mu n0 _ _ _);have aF:=Z (FP.pf ae.AT (PF.AL (n0:=n0) au));have aB:=Z (AI aE.out au);unfold sv at u1;obtain⟨bv,cA⟩:=JH gk;obtain⟨B,a'⟩:=U wr.heap.size;have cB:=Z a';rw[a']at h;clear az ae aA au;go_upto_region 6 with(fail);obtain⟨am,bw⟩:=U (wr.alloc (.cells #[.int .i64 n.kind,.string ⟨n.name.toArray⟩,.bool n.A7,.slice aX n.AZ.length aY,.slice aZ n.words.length a0,.slice a1 n.AK.length a2,.slice a3 n.AT.length a4,.slice a5 n.kids.length a6] 32));rw[bw]at h a7 a8 a9 aF aB⊢;have aG:=Y.cell h 0;have aH:=Y.cell h 1;have aI:=Y.cell h 2;have aJ:=Y.cell h 3;have aK:=Y.cell h 4;have aL:=Y.cell h 5;have aM:=Y.cell h 6;have aN:=Y.cell h 7;have aO:=Y.lt h;have aP:=Z h;obtain⟨ba,bx⟩:∃y:Int,min ((n.name.length:Nat):Int) 100000=y:=⟨_,rfl⟩;obtain⟨bb,bz⟩:∃y:Int,min ((n.kids.length:Nat):Int) 100000=y:=⟨_,rfl⟩;have bV:=Z bx;have bW:=Z bz;have bX:0<=ba/\ba<=100000:=(by omega);have bY:0<=bb/\bb<=100000:=(by omega);obtain⟨an,bc⟩:∃P:Prop,((∀m∈l.take i,RE m)/\S1 n.name/\n.kids.length<=100000)=P:=⟨_,rfl⟩;have af:=Z (show c+10+ba+bb<100000->an from fun N=>by rw[<-bc];exact⟨bU.out,show n.name.length<=100000 by omega,by omega⟩);have bZ:=Z bc;have b0:=sz n.name;clear bw a' h bx bz bc u0 u1 u2 u3 u4 u5 u6 u7 bP;go_upto_region 7 with(fail);obtain⟨aQ,bA⟩:=U (c+10+min ((n.name.length:Nat):Int) 100000+min ((n.kids.length:Nat):Int) 100000);have b1:0<=aQ/\aQ<=400000:=(by omega);have af:=Z (show aQ<100000->an from fun N=>af.out (by rw[<-bV.out,<-bW.out];omega));rw[bA];clear bA bX bY K L z ab b0;obtain⟨K,L⟩:=b1;obtain⟨c,b2⟩:=JH aQ;subst b2;go_upto_block 2 with(fail);go_cut [3,6] (fun O ag aa=> ∃c:Int,O=.int .i64 c/\0<=c/\c<=400000/\(c<100000->an/\ ∀s∈n.AZ,S1 s)/\am=aa);case first=>
     go_wp2_with fail;go_loopg [3,6] (n.AZ.length+1) (fun g O ag aa=> ∃(k:Nat) (c:Int),ag=.int .i64 k/\O=.int .i64 c/\k<=n.AZ.length/\g+k=n.AZ.length+1/\0<=c/\c<=400000/\(c<100000->an/\ ∀s∈n.AZ.take k,S1 s)/\am=aa);case atStart=>exact⟨0,_,rfl,rfl,DD _,rfl,by omega,by omega,fun N=>⟨af.out N,fun s hs=>by simp at hs⟩,rfl⟩
     case round=>
      obtain⟨k,c,rfl,rfl,hk,W,K,L,J,M⟩:=hrel;subst M;have ac:=Z W;have X:=Z J;clear J W;by_cases I:k<n.AZ.length
      ·have q:decide ((k:Int)<(n.AZ.length:Int))=true:=Au (by omega);have ad:decide (k<n.AZ.length)=true:=Au I;by_cases z:c<100000
       ·have ab:decide (c<100000)=true:=Au z;have bd:(0:Int)<=(k:Int)/\(k:Int)<(n.AZ.length:Int):=(by omega);have be:(k:Int)+1<=9223372036854775807:=(by omega);obtain⟨bf,bg,aq,bh,ao⟩:=CW.get a7.out k I;subst aq;obtain⟨s,hs⟩:=U (n.AZ[k]);rw[hs]at ao;unfold sv at ao;obtain⟨F,ah⟩:∃F:Int,min ((s.length:Nat):Int) 100000=F:=⟨_,rfl⟩;have ar:=Z ah;have bi:0<=F/\F<=100000:=(by omega);have ai:=Z (show c+2+F<100000->an/\ ∀s∈n.AZ.take (k+1),S1 s from fun N=>⟨(X.out z).1,Fz I (X.out z).2 (by rw[hs];show s.length<=100000;omega)⟩);have bj:=sz s;clear hs ah;go_wp2_with fail;rw[ar.out];go_roundg (gk-1);case rel=>exact⟨k+1,c+2+F,by rw[EP];rfl,rfl,I,by have:=ac.out;omega,by omega,by omega,ai.out,rfl⟩
        case measure=>have:=ac.out;omega
       ·have ab:decide (c<100000)=false:=As z;have aj:=Z (show c<100000->an/\ ∀s∈n.AZ,S1 s from fun G=>Aj G z);go_wp2_with fail;go_meet;exact⟨c,rfl,K,L,aj.out,rfl⟩
      ·have q:decide ((k:Int)<(n.AZ.length:Int))=false:=As (by omega);have ad:decide (k<n.AZ.length)=false:=As I;have aj:=Z (show c<100000->an/\ ∀s∈n.AZ,S1 s from fun G=>⟨(X.out G).1,Gu (i:=k) (by omega) (X.out G).2⟩);go_wp2_with fail;go_meet;exact⟨c,rfl,K,L,aj.out,rfl⟩
    case rest=>
    obtain⟨c,rfl,K,L,J,M⟩:=hcut;subst M;have af:=Z J;clear J;obtain⟨aw,ak⟩:∃P:Prop,(an/\ ∀s∈n.AZ,S1 s)=P:=⟨_,rfl⟩;rw[ak]at af;have b3:=Z ak;clear ak;go_upto_block 4 with(fail);go_cut [3,7] (fun O ag aa=> ∃c:Int,O=.int .i64 c/\0<=c/\c<=400000/\(c<100000->aw/\ ∀s∈n.words,S1 s)/\am=aa);case first=>
     go_wp2_with fail;go_loopg [3,7] (n.words.length+1) (fun g O ag aa=> ∃(k:Nat) (c:Int),ag=.int .i64 k/\O=.int .i64 c/\k<=n.words.length/\g+k=n.words.length+1/\0<=c/\c<=400000/\(c<100000->aw/\ ∀s∈n.words.take k,S1 s)/\am=aa);case atStart=>exact⟨0,_,rfl,rfl,DD _,rfl,by omega,by omega,fun N=>⟨af.out N,fun s hs=>by simp at hs⟩,rfl⟩
     case round=>
      obtain⟨k,c,rfl,rfl,hk,W,K,L,J,M⟩:=hrel;subst M;have ac:=Z W;have X:=Z J;clear J W;by_cases I:k<n.words.length
      ·have q:decide ((k:Int)<(n.words.length:Int))=true:=Au (by omega);have ad:decide (k<n.words.length)=true:=Au I;by_cases z:c<100000
       ·have ab:decide (c<100000)=true:=Au z;have bd:(0:Int)<=(k:Int)/\(k:Int)<(n.words.length:Int):=(by omega);have be:(k:Int)+1<=9223372036854775807:=(by omega);obtain⟨bf,bg,aq,bh,ao⟩:=CW.get a8.out k I;subst aq;obtain⟨s,hs⟩:=U (n.words[k]);rw[hs]at ao;unfold sv at ao;obtain⟨F,ah⟩:∃F:Int,min ((s.length:Nat):Int) 100000=F:=⟨_,rfl⟩;have ar:=Z ah;have bi:0<=F/\F<=100000:=(by omega);have ai:=Z (show c+2+F<100000->aw/\ ∀s∈n.words.take (k+1),S1 s from fun N=>⟨(X.out z).1,Fz I (X.out z).2 (by rw[hs];show s.length<=100000;omega)⟩);have bj:=sz s;clear hs ah;go_wp2_with fail;rw[ar.out];go_roundg (gk-1);case rel=>exact⟨k+1,c+2+F,by rw[EP];rfl,rfl,I,by have:=ac.out;omega,by omega,by omega,ai.out,rfl⟩
        case measure=>have:=ac.out;omega
       ·have ab:decide (c<100000)=false:=As z;have aj:=Z (show c<100000->aw/\ ∀s∈n.words,S1 s from fun G=>Aj G z);go_wp2_with fail;go_meet;exact⟨c,rfl,K,L,aj.out,rfl⟩
      ·have q:decide ((k:Int)<(n.words.length:Int))=false:=As (by omega);have ad:decide (k<n.words.length)=false:=As I;have aj:=Z (show c<100000->aw/\ ∀s∈n.words,S1 s from fun G=>⟨(X.out G).1,Gu (i:=k) (by omega) (X.out G).2⟩);go_wp2_with fail;go_meet;exact⟨c,rfl,K,L,aj.out,rfl⟩
    case rest=>
    obtain⟨c,rfl,K,L,J,M⟩:=hcut;subst M;have af:=Z J;clear J;obtain⟨ax,ak⟩:∃P:Prop,(aw/\ ∀s∈n.words,S1 s)=P:=⟨_,rfl⟩;rw[ak]at af;have b4:=Z ak;clear ak;go_upto_block 6 with(fail);go_cut [3,8] (fun O ag aa=> ∃c:Int,O=.int .i64 c/\0<=c/\c<=400000/\(c<100000->ax/\ ∀s∈n.AK,R1 s)/\am.grownBy aa none);case first=>
     go_wp2_with fail;go_loopg [3,8] (n.AK.length+1) (fun g O ag aa=> ∃(k:Nat) (c:Int),ag=.int .i64 k/\O=.int .i64 c/\k<=n.AK.length/\g+k=n.AK.length+1/\0<=c/\c<=400000/\(c<100000->ax/\ ∀s∈n.AK.take k,R1 s)/\am.grownBy aa none);case atStart=>exact⟨0,_,rfl,rfl,DD _,rfl,by omega,by omega,fun N=>⟨af.out N,fun s hs=>by simp at hs⟩,AB am none⟩
     case round=>
      obtain⟨k,c,rfl,rfl,hk,W,K,L,J,M⟩:=hrel;have aR:=Z M;have h:=Y.grown aP.out M (by simp);clear M aG aH aI aJ aK aL aM aN aO;have aG:=Y.cell h 0;have aH:=Y.cell h 1;have aI:=Y.cell h 2;have aJ:=Y.cell h 3;have aK:=Y.cell h 4;have aL:=Y.cell h 5;have aM:=Y.cell h 6;have aN:=Y.cell h 7;have aO:=Y.lt h;clear h;have ac:=Z W;have X:=Z J;clear J W;by_cases I:k<n.AK.length
      ·have q:decide ((k:Int)<(n.AK.length:Int))=true:=Au (by omega);have ad:decide (k<n.AK.length)=true:=Au I;by_cases z:c<100000
       ·have ab:decide (c<100000)=true:=Au z;have bd:(0:Int)<=(k:Int)/\(k:Int)<(n.AK.length:Int):=(by omega);have be:(k:Int)+1<=9223372036854775807:=(by omega);obtain⟨bf,bg,aq,bh,b5,bB,bC⟩:=Mu.get (Cz.pf a9.out (PF.AL (n0:=n0) aR.out)) k I;subst aq;obtain⟨s,hs⟩:=U (n.AK[k]);rw[hs]at b5 bB bC;unfold sv at bB bC;obtain⟨F,ah⟩:∃F:Int,min ((s.op.length:Nat):Int) 100000=F:=⟨_,rfl⟩;obtain⟨ay,bD⟩:∃ay:Int,min ((s.wd.length:Nat):Int) 100000=ay:=⟨_,rfl⟩;have ar:=Z ah;have b6:=Z bD;have bi:0<=F/\F<=100000:=(by omega);have cC:0<=ay/\ay<=100000:=(by omega);have ai:=Z (show c+4+F+ay<100000->ax/\ ∀s∈n.AK.take (k+1),R1 s from fun N=>⟨(X.out z).1,Fz I (X.out z).2 (by rw[hs];exact⟨show s.op.length<=100000 by omega,show s.wd.length<=100000 by omega⟩)⟩);have bj:=sz s.op;have cD:=sz s.wd;clear hs ah bD;go_upto_region 18 with(fail);refine wp_region_quiet_lit (by kernel_rfl) (by kernel_rfl) ?_;repeat(go_big_quiet_step (fail))
        refine wpQuiet_nil ?_;rintro _ ⟨nq,rfl⟩;go_wp2_with fail;rw[ar.out,b6.out];go_roundg (gk-1);case rel=>exact⟨k+1,c+4+F+ay,by rw[EP];rfl,rfl,I,by have:=ac.out;omega,by omega,by omega,ai.out,At aR.out nq⟩
        case measure=>have:=ac.out;omega
       ·have ab:decide (c<100000)=false:=As z;have aj:=Z (show c<100000->ax/\ ∀s∈n.AK,R1 s from fun G=>Aj G z);go_wp2_with fail;go_meet;exact⟨c,rfl,K,L,aj.out,aR.out⟩
      ·have q:decide ((k:Int)<(n.AK.length:Int))=false:=As (by omega);have ad:decide (k<n.AK.length)=false:=As I;have aj:=Z (show c<100000->ax/\ ∀s∈n.AK,R1 s from fun G=>⟨(X.out G).1,Gu (i:=k) (by omega) (X.out G).2⟩);go_wp2_with fail;go_meet;exact⟨c,rfl,K,L,aj.out,aR.out⟩
    case rest=>
    obtain⟨c,rfl,K,L,J,M⟩:=hcut;have h:=Y.grown aP.out M (by simp);have aF:=Z (aF.out.pf (PF.AL (n0:=n0) M));have aB:=Z (AI aB.out M);clear M aG aH aI aJ aK aL aM aN aO a7 a8 a9 aP;obtain⟨am,b7⟩:=JH wc;subst b7;have aG:=Y.cell h 0;have aH:=Y.cell h 1;have aI:=Y.cell h 2;have aJ:=Y.cell h 3;have aK:=Y.cell h 4;have aL:=Y.cell h 5;have aM:=Y.cell h 6;have aN:=Y.cell h 7;have aO:=Y.lt h;have aP:=Z h;clear h;have af:=Z J;clear J;obtain⟨bk,ak⟩:∃P:Prop,(ax/\ ∀s∈n.AK,R1 s)=P:=⟨_,rfl⟩;rw[ak]at af;have b8:=Z ak;clear ak;go_wp2_with fail;go_loopg [3,9] (n.AT.length+1) (fun g O ag aa=> ∃(k:Nat) (c:Int),ag=.int .i64 k/\O=.int .i64 c/\k<=n.AT.length/\g+k=n.AT.length+1/\0<=c/\4*(k:Int)<=c/\c<=400000/\(c<100000->bk/\ ∀s∈n.AT.take k,P1 s)/\am=aa);case atStart=>exact⟨0,_,rfl,rfl,DD _,rfl,by omega,by omega,by omega,fun N=>⟨af.out N,fun s hs=>by simp at hs⟩,rfl⟩
    case round=>
     clear K L;obtain⟨k,c,rfl,rfl,hk,W,K,bE,L,J,M⟩:=hrel;obtain⟨bl,bm⟩:=JH gk;subst M;have ac:=Z (bm▸W:bl+k=n.AT.length+1);have bF:=Z bm;have X:=Z J;clear J W bm;by_cases I:k<n.AT.length
     ·have q:decide ((k:Int)<(n.AT.length:Int))=true:=Au (by omega);have ad:decide (k<n.AT.length)=true:=Au I;by_cases z:c<100000
      ·have ab:decide (c<100000)=true:=Au z;have bd:(0:Int)<=(k:Int)/\(k:Int)<(n.AT.length:Int):=(by omega);have be:(k:Int)+1<=9223372036854775807:=(by omega);obtain⟨cE,cF,u,b9,cG,cH,aS⟩:=FP.get aF.out k I;subst b9;obtain⟨p,bn⟩:=U (n.AT[k]);rw[bn]at aS;obtain⟨pa,cI,rfl,b',ca⟩:=aS.at_;have cJ:(p.length:Int)<=9223372036854775807:=(by omega);have cb:=Z aS;have aT:=Z (BC I (BC bn (X.out z)));clear bn aS b' ca;go_wp2_with fail;go_loopg [3,10] (p.length+1) (fun g O ag aa=> ∃(m:Nat) (c:Int),ag=.int .i64 m/\O=.int .i64 c/\m<=p.length/\g+m=p.length+1/\0<=c/\4*((k:Int)+1)<=c/\4*(m:Int)<=c/\c<=400000/\(c<100000-> ∀s∈p.take m,S1 s)/\am=aa);case atStart=>exact⟨0,_,rfl,rfl,DD _,rfl,by omega,by omega,by omega,by omega,fun N s hs=>by simp at hs,rfl⟩
       case round=>
        clear q ad ab z K L bE;obtain⟨m,c,rfl,rfl,cK,W,K,bE,cL,L,J,M⟩:=hrel;subst M;have bG:=Z W;have bH:=Z J;clear J W;by_cases aC:m<p.length
        ·have q:decide ((m:Int)<(p.length:Int))=true:=Au (by omega);have ad:decide (m<p.length)=true:=Au aC;by_cases z:c<100000
         ·have ab:decide (c<100000)=true:=Au z;have cM:(0:Int)<=(m:Int)/\(m:Int)<(p.length:Int):=(by omega);have cN:(m:Int)+1<=9223372036854775807:=(by omega);obtain⟨bf,bg,aq,bh,ao⟩:=CW.get cb.out m aC;subst aq;obtain⟨s,hs⟩:=U (p[m]);rw[hs]at ao;unfold sv at ao;obtain⟨F,ah⟩:∃F:Int,min ((s.length:Nat):Int) 100000=F:=⟨_,rfl⟩;have ar:=Z ah;have bi:0<=F/\F<=100000:=(by omega);have ai:=Z (show c+4+F<100000-> ∀s∈p.take (m+1),S1 s from fun N=>Fz aC (bH.out z) (by rw[hs];show s.length<=100000;omega));have bj:=sz s;clear hs ah;go_wp2_with fail;rw[ar.out];go_roundg (gk-1);case rel=>exact⟨m+1,c+4+F,by rw[EP];rfl,rfl,aC,by have:=bG.out;omega,by omega,by omega,by omega,by omega,ai.out,rfl⟩
          case measure=>have:=bG.out;omega
         ·have ab:decide (c<100000)=false:=As z;have ai:=Z (show c<100000->bk/\ ∀s∈n.AT.take (k+1),P1 s from fun G=>Aj G z);go_wp2_with fail;go_roundg (bl-1);case rel=>exact⟨k+1,c,by rw[EP];rfl,rfl,I,by have:=ac.out;omega,by omega,by omega,by omega,ai.out,rfl⟩
          case measure=>have:=ac.out;have:=bF.out;omega
        ·have q:decide ((m:Int)<(p.length:Int))=false:=As (by omega);have ad:decide (m<p.length)=false:=As aC;have ai:=Z (show c<100000->bk/\ ∀s∈n.AT.take (k+1),P1 s from fun G=>⟨aT.out.2.2.1,Fz aT.out.1 aT.out.2.2.2 (by rw[aT.out.2.1];exact⟨by omega,Gu (i:=m) (by omega) (bH.out G)⟩)⟩);go_wp2_with fail;go_roundg (bl-1);case rel=>exact⟨k+1,c,by rw[EP];rfl,rfl,I,by have:=ac.out;omega,by omega,by omega,by omega,ai.out,rfl⟩
         case measure=>have:=ac.out;have:=bF.out;omega
      ·have ab:decide (c<100000)=false:=As z;have bo:=Z (show c<100000-> ∀m∈l.take (i+1),RE m from fun G=>Aj G z);go_wp2_with fail;go_roundg (bv-1);case rel=>exact⟨i+1,c,by rw[EP];rfl,rfl,by omega,by have:=aD.out;omega,K,L,bo.out,aB.out⟩
       case measure=>have:=aD.out;omega
     ·have q:decide ((k:Int)<(n.AT.length:Int))=false:=As (by omega);have ad:decide (k<n.AT.length)=false:=As I;have bo:=Z (show c<100000-> ∀m∈l.take (i+1),RE m from fun N=>by
       obtain⟨ap,bp⟩:=X.out N;have cc:n.AT.length<=100000:=(by omega);have bp:=Gu (i:=k) (by omega) bp;rw[<-b8.out]at ap;obtain⟨bI,cd⟩:=ap;rw[<-b4.out]at bI;obtain⟨bJ,ce⟩:=bI;rw[<-b3.out]at bJ;obtain⟨aU,cf⟩:=bJ;rw[<-bZ.out]at aU;exact Fz (by have:=aW.out;omega) aU.1 (by rw[bT.out];exact⟨aU.2.1,aU.2.2,cf,ce,cd,cc,bp⟩))
      go_wp2_with fail;go_roundg (bv-1);case rel=>exact⟨i+1,c,by rw[EP];rfl,rfl,by omega,by have:=aD.out;omega,K,L,bo.out,aB.out⟩
      case measure=>have:=aD.out;omega
   ·have ab:decide (c<100000)=false:=As z;have bK:decide (100000<=c)=true:=Au (by omega);clear aA;go_wp2_with fail;go_ret;exact⟨⟨true,rfl,fun e=>by cases e⟩,aE.out⟩
  ·have bM:decide ((i:Int)<(al:Int))=false:=As (by omega);have ad:decide (i<al)=false:=As bu;have cg:=Z (show c<100000-> ∀n∈l,RE n from fun N=>Gu (i:=i) (by have:=aW.out;omega) (bt.out N));clear aA;by_cases z:c<100000
   ·have bK:decide (100000<=c)=false:=As (by omega);have ch:=Z (cg.out z);go_wp2_with fail;go_ret;exact⟨⟨false,rfl,fun _=>ch.out⟩,aE.out⟩
   ·have bK:decide (100000<=c)=true:=Au (by omega);go_wp2_with fail;go_ret;exact⟨⟨true,rfl,fun e=>by cases e⟩,aE.out⟩
end Go.Proofs.YtdhfhphbkfgamaaGreat
