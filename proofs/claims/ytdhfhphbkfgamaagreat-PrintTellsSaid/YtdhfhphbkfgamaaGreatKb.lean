/- A part. -/
import Derived.Test.YtdhfhphbkfgamaaGreatKa
set_option maxRecDepth 100000
set_option linter.all false
namespace Go.Proofs.YtdhfhphbkfgamaaGreat
section
open Go.RowKit Proofs.Tryz
section
variable {P:Program}{ops:Array Oper}{Q:Exit->Act->World->Prop}{md:Region.Mode}{S:World->Prop}
def wpAnyS(P:Program)(md:Region.Mode)(ops:Array Oper)(Q:Exit->Act->World->Prop)(S:World->Prop)(n:Nat):Nat->Array Bool->Act->World->Prop
 |0,listed,a,w=>Region.ready md ops listed=[]/\Q .normal a w
 |f+1,listed,a,w=>Region.ready md ops listed≠[]/\ ∀i∈Region.ready md ops listed,wpOp P ops Q i (fun h w'=>(i=n\/S w')/\wpAnyS P md ops Q S n f (listed.setIfInBounds i true) h w') a w
theorem Gy{n:Nat} :∀(f:Nat) (listed:Array Bool) (a:Act) (w:World),wpAnyS P md ops Q S n f listed a w->wpAny P md ops Q f listed a w
 |0,_,_,_,h=>h
 |f+1,_,_,_,h=>⟨fun z=>Aj z h.1,fun i F=>wpOp_mono (fun G w' I=>Gy f _ G w' I.2) (h.2 i F)⟩
theorem wpAnyS_first{n i:Nat}{z:Oper}{v:Value}(O:ops[i]? =some z)(ab:∀(j:Nat) (o:Oper) K b,ops[j]? =some o->o.op≠.select K b)
  (ag:∀c a w,Q (.panic c) (a.put z.dst v) w->Q (.panic c) a w) (hs:Region.sinkB md ops n=true) (ah:Region.chainB md ops n=true) (ai:n<ops.size) (aj:i<n):
  ∀(f:Nat) (listed:Array Bool) (a:Act) (w:World),HeadInv md ops n listed->
   (∀j F,ops[j]? =some F->j≠i->listed.getD j true=false->(∀e∈F.after,Region.binds md e=true->e.on≠i)->z.apart ops F=true)->
   i∈Region.ready md ops listed->YieldsIf P ops S z v a->S w->
   wpAnyS P md ops Q S n f (listed.setIfInBounds i true) (a.put z.dst v) w->wpAnyS P md ops Q S n (f+1) listed a w:=by
 intro f;induction f with
 |zero=>
  intro listed a w W _ G hy L H;refine⟨fun I=>(by rw[I]at G;cases G),fun j J=>?_⟩;by_cases h:j=i
  ·subst h;exact hy.wpOp O L ⟨.inr L,H⟩
  ·have:=ready_mono J h;rw[H.1]at this;cases this
 |succ f ih=>
  intro listed a w W ac G hy L H;have M:=(mem_ready.1 G).1;refine⟨fun I=>(by rw[I]at G;cases G),fun j J=>?_⟩;by_cases h:j=i
  ·subst h;exact hy.wpOp O L ⟨.inr L,H⟩
  ·have ak:j<n:=by
    rcases Nat.lt_or_ge j n with I|I
    ·exact I
    ·exact Aj J (tail_waits hs ah ai W _ i rfl aj M j I)
   have N:=H.2 j (ready_mono J h);obtain⟨ad,F,X,al⟩:=mem_ready.1 J;have am:∀e∈F.after,Region.binds md e=true->e.on≠i:=fun e an ao ap=>by
    have N:=al e an ao;rw[ap,getD_both M]at N;cases N
   have aq:=wpOp_putIf X (ac j F X h ad am) (fun K b=>ab i z K b O) (fun K b=>ab j F K b X) ag hy N;have ar:∀k ok,ops[k]? =some ok->k≠i->(listed.setIfInBounds j true).getD k true=false->
     (∀e∈ok.after,Region.binds md e=true->e.on≠i)->z.apart ops ok=true:=fun k ok hk au M aw=>by
    refine ac k ok hk au ?_ aw;by_cases ae:j=k
    ·subst ae;exact ad
    ·rw[getD_set_ne true ae]at M;exact M
   refine wpOp_mono (fun ax w' aa=>?_) aq;have af:S w':=aa.2.1.elim (fun e=>Aj e (by omega)) id;refine⟨.inr af,ih (listed.setIfInBounds j true) ax w' (W.set J ak) ar (ready_mono G (Ne.symm h)) aa.1 af ?_⟩;rw[Array.setIfInBounds_comm _ _ h];exact aa.2.2
def pick:List Nat->List Oper->List Oper
 |[],_=>[]
 |i::h,l=>match l[i]? with|some o=>o::pick h l|none=>pick h l
def Gd(P:Program)(ops:Array Oper)(S:World->Prop)(R:Act->Prop):List Oper->Act->Prop
 |[],a=>R a
 |o::l,a=> ∃v,YieldsIf P ops S o v a/\Gd P ops S R l (a.put o.dst v)
def Ft(P:Program)(ops:Array Oper)(S:World->Prop)(Q:Exit->Act->World->Prop):List Oper->Act->World->Prop
 |[],a,w=>Q .normal a w
 |[o],a,w=>wpList P ops Q [o] a w
 |o::p::l,a,w=> ∀h:Act->World->Prop,Shut (∀z w',S w'->Ft P ops S Q (p::l) z w'->h z w')->if Region.wanted o (yielded ops a.tmps)=true then Oper.wp P o a w h Q else h (a.put o.dst undef) w
def IM(md:Region.Mode)(ops:Array Oper)(n:Nat):List Nat->Array Bool->Bool
 |[],_=>false
 |f::h,listed=>decide (Region.ready md ops listed=[f])&&(match h with
  |[]=>decide (f=n)&&(Region.ready md ops (listed.setIfInBounds f true)).isEmpty
  |_::_=>decide (f<n)&&IM md ops n h (listed.setIfInBounds f true))
def Ku(md:Region.Mode)(ops:Array Oper)(n:Nat)(h:List Nat):List Nat->Array Bool->Bool
 |[],listed=>IM md ops n h listed
 |q::z,listed=>decide (q<n)&&(Region.ready md ops listed).contains q&&Region.free md ops listed q&&Ku md ops n h z (listed.setIfInBounds q true)
theorem FG{l:List Oper}{i:Nat}{o:Oper}{h:List Nat}(z:l[i]? =some o):pick (i::h) l=o::pick h l:=by
 simp only[pick,z]
theorem IK{n f:Nat}{F:List Nat}{listed:Array Bool}{l:List Oper}(h:IM md l.toArray n (f::F) listed=true):Region.ready md l.toArray listed=[f]/\ ∃o,l.toArray[f]? =some o/\l[f]? =some o:=by
 simp only[IM,CN,Di]at h;have G:f∈Region.ready md l.toArray listed:=(by rw[h.1];simp);obtain⟨_,o,z,_⟩:=mem_ready.1 G;exact⟨h.1,o,z,by simpa using z⟩
theorem Ho{l:List Oper}{n:Nat} :∀(z:List Nat) (listed:Array Bool) (a:Act) (w:World),IM md l.toArray n z listed=true->Ft P l.toArray S Q (pick z l) a w->wpAnyS P md l.toArray Q S n z.length listed a w
 |[],_,_,_,h,_=>by simp[IM]at h
 |[f],listed,a,w,h,F=>by
  obtain⟨G,o,J,K⟩:=IK h;simp only[IM,CN,Di]at h;obtain⟨_,rfl,O⟩:=h;rw[FG K]at F;refine⟨by rw[G];simp,fun i I=>?_⟩;rw[G]at I;obtain rfl:i=f:=by simpa using I
  have W:wpOp P l.toArray Q i (wpList P l.toArray Q []) a w:=(by unfold wpOp;simp only[J];exact F);exact wpOp_mono (fun L w' X=>⟨.inl rfl,by simpa using O,X⟩) W
 |f::g::z,listed,a,w,h,F=>by
  obtain⟨G,o,J,K⟩:=IK h;unfold IM at h;simp only[CN,Di]at h;obtain⟨_,ae,M⟩:=h;obtain⟨_,p,_,N⟩:=IK M;rw[FG K,FG N]at F;refine⟨by rw[G];simp,fun i I=>?_⟩;rw[G]at I;obtain rfl:i=f:=by simpa using I
  refine wpOp_step J fun aa ab=>F aa fun L w' ac ad=>ab L w' ⟨.inr ac,Ho (g::z) _ L w' M (by rw[FG N];exact ad)⟩
theorem KJ{l:List Oper}{n:Nat}(K:Region.noSelect l.toArray=true)(hs:Region.sinkB md l.toArray n=true)(L:Region.chainB md l.toArray n=true)(M:n<l.toArray.size)(h:List Nat)
  (N:∀c a w,¬Q (.panic c) a w):∀(z:List Nat) (listed:Array Bool) (a:Act) (w:World),HeadInv md l.toArray n listed->Ku md l.toArray n h z listed=true->S w->
  Gd P l.toArray S (fun aa=>Ft P l.toArray S Q (pick h l) aa w) (pick z l) a->wpAnyS P md l.toArray Q S n (z.length+h.length) listed a w
 |[],listed,a,w,_,G,_,F=>by
  rw[CU,Dc];exact Ho h listed a w G F
 |q::z,listed,a,w,O,G,W,F=>by
  simp only[Ku,CN,Di]at G;obtain⟨⟨⟨X,ab⟩,ac⟩,ad⟩:=G;have I:q∈Region.ready md l.toArray listed:=(by simpa using ab);obtain⟨_,o,J,_⟩:=mem_ready.1 I;have ae:l[q]? =some o:=(by simpa using J);rw[FG ae]at F;obtain⟨v,hy,af⟩:=F;rw[BR,show z.length+1+h.length=(z.length+h.length)+1 by omega];exact wpAnyS_first J (Region.noSelect_spec K) (fun c a w F=>Aj F (N c _ w)) hs L M X _ listed a w O (Region.free_spec J ac) I hy W
   (KJ K hs L M h N z _ _ w (O.set I X) ad W af)
theorem C8{id:Nat}{a:Act}{w:World}{l:List Oper}(h z:List Nat)(J:P.follows .mixedOrders=true)
  (I:(Region.noSelect l.toArray&&Region.sinkB .any l.toArray (l.length-1)&&Region.chainB .any l.toArray (l.length-1)&&decide (0<l.length)&&decide (h.length+z.length=l.length)&&Ku .any l.toArray (l.length-1) z h (Array.replicate l.toArray.size false))=true)
  (S:World->Prop) (K:S w.drew) (F:Gd P l.toArray S (fun L=>Ft P l.toArray S (NoPanic Q) (pick z l) L w.drew) (pick h l) a):(Code.region id l.toArray true).wp P Q a w:=by
 simp only[CN,Di]at I;obtain⟨⟨⟨⟨⟨M,hs⟩,N⟩,G⟩,O⟩,W⟩:=I;refine wp_region_noPanic (wp_region_any J (Gy (n:=l.length-1) (S:=S) _ _ _ _ ?_));have X:HeadInv .any l.toArray (l.length-1) (Array.replicate l.toArray.size false):=
  ⟨by simp,fun j ab _ G=>(by rw[getD_replicate_false]at G;cases G),fun t _ aa=>getD_in (by simpa using aa) (getD_replicate_false _ _)⟩
 have:=KJ (Q:=NoPanic Q) (md:=.any) M hs N (by simp;omega) z (fun c a w F=>F) h _ a w.drew X W K F;rw[O]at this;simpa using this
theorem AR{o:Oper}{l:List Oper}{a:Act}{R:Act->Prop}(v:Value)(h:Region.wanted o (yielded ops a.tmps)=true)(hy:∀w,S w->(execOp a.eval o).run P w=.ok (.value v) w)(z:Gd P ops S R l (a.put o.dst v)):Gd P ops S R (o::l) a:=
 ⟨v,.inl ⟨h,hy⟩,z⟩
theorem CV{a:Act}{R:Act->Prop}(h:R a):Gd P ops S R [] a:=h
theorem Ag{o p:Oper}{l:List Oper}{a:Act}{w:World}(F:∀h:Act->World->Prop,Shut (∀z w',S w'->Ft P ops S Q (p::l) z w'->h z w')->if Region.wanted o (yielded ops a.tmps)=true then Oper.wp P o a w h Q else h (a.put o.dst undef) w):Ft P ops S Q (o::p::l) a w:=F
theorem CR{o:Oper}{a:Act}{w:World}(h:wpList P ops Q [o] a w):Ft P ops S Q [o] a w:=h
theorem Aa{o:Oper}{a:Act}{w:World}{h:Act->World->Prop}{E:Prop}(v:Value)(w':World)(z:o.guard=none)(F:(execOp a.eval o).run P w=.ok (.value v) w')(G:h (a.put o.dst v) w'):
  if Region.wanted o (yielded ops a.tmps)=true then Oper.wp P o a w h Q else E:=by
 rw[Ai (by simp[Region.wanted,z])];unfold Oper.wp;rw[F];exact G
theorem step_skip{o:Oper}{a:Act}{w:World}{h:Act->World->Prop}{E:Prop}(w':World)(z:o.guard=none)(F:(execOp a.eval o).run P w=.ok .skip w')(G:h (a.put o.dst undef) w'):
  if Region.wanted o (yielded ops a.tmps)=true then Oper.wp P o a w h Q else E:=by
 rw[Ai (by simp[Region.wanted,z])];unfold Oper.wp;rw[F];exact G
end
end
section
open Go.RowKit Proofs.Tryz
inductive FT where
 |last (i:Nat)
 |one (i:Nat) (t:FT)
 |two (i:Nat) (t:FT) (j:Nat) (u:FT)
def FT.len:FT->Nat
 | .last _=>1
 | .one _ t=>t.len+1
 | .two _ t _ _=>t.len+1
section
variable {P:Program}{ops:Array Oper}{Q:Exit->Act->World->Prop}{md:Region.Mode}{S:World->Prop}
def Gr(P:Program)(ops:Array Oper)(S:World->Prop)(Q:Exit->Act->World->Prop)(l:List Oper)(i:Nat)(R:Act->World->Prop)(a:Act)(w:World):Prop:=match l[i]? with
 |some o=> ∀h:Act->World->Prop,Shut (∀z w',S w'->R z w'->h z w')->if Region.wanted o (yielded ops a.tmps)=true then Oper.wp P o a w h Q else h (a.put o.dst undef) w
 |none=>False
def OV(P:Program)(ops:Array Oper)(S:World->Prop)(Q:Exit->Act->World->Prop)(l:List Oper):FT->Act->World->Prop
 | .last i,a,w=>match l[i]? with|some o=>wpList P ops Q [o] a w|none=>False
 | .one i t,a,w=>Gr P ops S Q l i (OV P ops S Q l t) a w
 | .two i t j u,a,w=>Gr P ops S Q l i (OV P ops S Q l t) a w/\Gr P ops S Q l j (OV P ops S Q l u) a w
def Pa(md:Region.Mode)(ops:Array Oper)(n:Nat):FT->Array Bool->Bool
 | .last i,listed=>decide (Region.ready md ops listed=[i])&&decide (i=n)&&(Region.ready md ops (listed.setIfInBounds i true)).isEmpty
 | .one i t,listed=>decide (Region.ready md ops listed=[i])&&decide (i<n)&&Pa md ops n t (listed.setIfInBounds i true)
 | .two i t j u,listed=>decide (Region.ready md ops listed=[i,j])&&decide (i<n)&&decide (j<n)&&decide (t.len=u.len)&&Pa md ops n t (listed.setIfInBounds i true)&&Pa md ops n u (listed.setIfInBounds j true)
def Vy(md:Region.Mode)(ops:Array Oper)(n:Nat)(t:FT):List Nat->Array Bool->Bool
 |[],listed=>Pa md ops n t listed
 |q::h,listed=>decide (q<n)&&(Region.ready md ops listed).contains q&&Region.free md ops listed q&&Vy md ops n t h (listed.setIfInBounds q true)
theorem La{l:List Oper}{listed:Array Bool}{i:Nat}(z:i∈Region.ready md l.toArray listed):∃o,l.toArray[i]? =some o/\l[i]? =some o:=by
 obtain⟨_,o,h,_⟩:=mem_ready.1 z;exact⟨o,h,by simpa using h⟩
theorem FJ{l:List Oper}{n i f:Nat}{listed:Array Bool}{a:Act}{w:World}{R:Act->World->Prop}(F:i∈Region.ready md l.toArray listed)(z:Gr P l.toArray S Q l i R a w)(ih:∀h w',R h w'->wpAnyS P md l.toArray Q S n f (listed.setIfInBounds i true) h w'):
  wpOp P l.toArray Q i (fun h w'=>(i=n\/S w')/\wpAnyS P md l.toArray Q S n f (listed.setIfInBounds i true) h w') a w:=by
 obtain⟨o,G,I⟩:=La F;unfold Gr at z;rw[I]at z;exact wpOp_step G fun J K=>z J fun h w' L M=>K h w' ⟨.inr L,ih h w' M⟩
end
end
section
open Go.RowKit Proofs.Tryz
section
variable {P:Program}{ops:Array Oper}{Q:Exit->Act->World->Prop}{md:Region.Mode}{S:World->Prop}
theorem JP{l:List Oper}{n:Nat}(K:Region.noSelect l.toArray=true)(hs:Region.sinkB md l.toArray n=true)(L:Region.chainB md l.toArray n=true)(M:n<l.toArray.size)(h:List Nat)
  (N:∀c a w d v,Q (.panic c) (a.put d v) w->Q (.panic c) a w):∀(z:List Nat) (listed:Array Bool) (a:Act) (w:World),HeadInv md l.toArray n listed->Ku md l.toArray n h z listed=true->S w->
  Gd P l.toArray S (fun aa=>Ft P l.toArray S Q (pick h l) aa w) (pick z l) a->wpAnyS P md l.toArray Q S n (z.length+h.length) listed a w
 |[],listed,a,w,_,G,_,F=>by
  rw[CU,Dc];exact Ho h listed a w G F
 |q::z,listed,a,w,O,G,W,F=>by
  simp only[Ku,CN,Di]at G;obtain⟨⟨⟨X,ab⟩,ac⟩,ad⟩:=G;have I:q∈Region.ready md l.toArray listed:=(by simpa using ab);obtain⟨_,o,J,_⟩:=mem_ready.1 I;have ae:l[q]? =some o:=(by simpa using J);rw[FG ae]at F;obtain⟨v,hy,af⟩:=F;rw[BR,show z.length+1+h.length=(z.length+h.length)+1 by omega];exact wpAnyS_first J (Region.noSelect_spec K) (fun c a w F=>N c a w _ _ F) hs L M X _ listed a w O (Region.free_spec J ac) I hy W
   (JP K hs L M h N z _ _ w (O.set I X) ad W af)
theorem Db{id:Nat}{a:Act}{w:World}{l:List Oper}(h z:List Nat)(I:P.follows .mixedOrders=true)
  (G:(Region.noSelect l.toArray&&Region.sinkB .any l.toArray (l.length-1)&&Region.chainB .any l.toArray (l.length-1)&&decide (0<l.length)&&decide (h.length+z.length=l.length)&&Ku .any l.toArray (l.length-1) z h (Array.replicate l.toArray.size false))=true)
  (S:World->Prop) (J:S w.drew) (K:∀c a w d v,Q (.panic c) (a.put d v) w->Q (.panic c) a w) (L:Gd P l.toArray S (fun M=>Ft P l.toArray S Q (pick z l) M w.drew) (pick h l) a):(Code.region id l.toArray true).wp P Q a w:=by
 simp only[CN,Di]at G;obtain⟨⟨⟨⟨⟨N,hs⟩,O⟩,F⟩,W⟩,X⟩:=G;refine wp_region_any I (Gy (n:=l.length-1) (S:=S) _ _ _ _ ?_);have aa:HeadInv .any l.toArray (l.length-1) (Array.replicate l.toArray.size false):=
  ⟨by simp,fun j ac _ F=>(by rw[getD_replicate_false]at F;cases F),fun t _ ab=>getD_in (by simpa using ab) (getD_replicate_false _ _)⟩
 have:=JP (md:=.any) N hs O (by simp;omega) z K h _ a w.drew aa X J L;rw[W]at this;simpa using this
theorem Ac{l:List Oper}{i:Nat}{o:Oper}{R:Act->World->Prop}{a:Act}{w:World}(F:l[i]? =some o)(G:∀h:Act->World->Prop,Shut (∀z w',S w'->R z w'->h z w')->if Region.wanted o (yielded ops a.tmps)=true then Oper.wp P o a w h Q else h (a.put o.dst undef) w):Gr P ops S Q l i R a w:=by
 unfold Gr;rw[F];exact G
theorem Cw{o:Oper}{a:Act}{w:World}{z:Act->World->Prop}{E:Prop}{f:FuncId}{args:Array Value}{R:Ending->World->Prop}(F:Region.wanted o (yielded ops a.tmps)=true)
  (G:(execOp a.eval o).run P w=.ok (.enter f args) w) (I:Calls P f args w R) (J:∀w',¬R .outgrown w') (K:∀v w',R (.returned v) w'->z (a.put o.dst v) w') (L:∀c w',R (.panicked c) w'->Q (.panic c) a w'):
  if Region.wanted o (yielded ops a.tmps)=true then Oper.wp P o a w z Q else E:=by
 rw[Ai F];unfold Oper.wp;rw[G,Oper.upon_enter];refine I.mono ?_;intro e w' h;cases e with
 |returned v=>exact K v w' h
 |panicked c=>exact L c w' h
 |outgrown=>exact Aj h (J w')
inductive FQ where
 |last (i:Nat)
 |one (i:Nat) (t:FQ)
 |two (i:Nat) (t:FQ) (j:Nat) (u:FQ)
 |three (i:Nat) (t:FQ) (j:Nat) (u:FQ) (k:Nat) (v:FQ)
def FQ.len:FQ->Nat
 | .last _=>1
 | .one _ t=>t.len+1
 | .two _ t _ _=>t.len+1
 | .three _ t _ _ _ _=>t.len+1
def ES(P:Program)(ops:Array Oper)(S:World->Prop)(Q:Exit->Act->World->Prop)(l:List Oper):FQ->Act->World->Prop
 | .last i,a,w=>match l[i]? with|some o=>wpList P ops Q [o] a w|none=>False
 | .one i t,a,w=>Gr P ops S Q l i (ES P ops S Q l t) a w
 | .two i t j u,a,w=>Gr P ops S Q l i (ES P ops S Q l t) a w/\Gr P ops S Q l j (ES P ops S Q l u) a w
 | .three i t j u k v,a,w=>Gr P ops S Q l i (ES P ops S Q l t) a w/\Gr P ops S Q l j (ES P ops S Q l u) a w/\Gr P ops S Q l k (ES P ops S Q l v) a w
def Fg(md:Region.Mode)(ops:Array Oper)(n:Nat):FQ->Array Bool->Bool
 | .last i,listed=>decide (Region.ready md ops listed=[i])&&decide (i=n)&&(Region.ready md ops (listed.setIfInBounds i true)).isEmpty
 | .one i t,listed=>decide (Region.ready md ops listed=[i])&&decide (i<n)&&Fg md ops n t (listed.setIfInBounds i true)
 | .two i t j u,listed=>decide (Region.ready md ops listed=[i,j])&&decide (i<n)&&decide (j<n)&&decide (t.len=u.len)&&Fg md ops n t (listed.setIfInBounds i true)&&Fg md ops n u (listed.setIfInBounds j true)
 | .three i t j u k v,listed=>decide (Region.ready md ops listed=[i,j,k])&&decide (i<n)&&decide (j<n)&&decide (k<n)&&decide (t.len=u.len)&&decide (t.len=v.len)&&Fg md ops n t (listed.setIfInBounds i true)&&Fg md ops n u (listed.setIfInBounds j true)&&Fg md ops n v (listed.setIfInBounds k true)
def Mm(md:Region.Mode)(ops:Array Oper)(n:Nat)(t:FQ):List Nat->Array Bool->Bool
 |[],listed=>Fg md ops n t listed
 |q::h,listed=>decide (q<n)&&(Region.ready md ops listed).contains q&&Region.free md ops listed q&&Mm md ops n t h (listed.setIfInBounds q true)
theorem DW{l:List Oper}{n:Nat} :∀(t:FQ) (listed:Array Bool) (a:Act) (w:World),Fg md l.toArray n t listed=true->ES P l.toArray S Q l t a w->wpAnyS P md l.toArray Q S n t.len listed a w
 | .last i,listed,a,w,F,G=>by
  simp only[Fg,CN,Di]at F;obtain⟨⟨h,rfl⟩,X⟩:=F;obtain⟨o,aa,ab⟩:=La (md:=md) (l:=l) (listed:=listed) (i:=i) (by rw[h];simp);simp only[ES,ab]at G;refine⟨by rw[h];simp,fun j J=>?_⟩;rw[h]at J;obtain rfl:j=i:=by simpa using J
  have ac:wpOp P l.toArray Q j (wpList P l.toArray Q []) a w:=(by unfold wpOp;simp only[aa];exact G);exact wpOp_mono (fun z w' ad=>⟨.inl rfl,by simpa using X,ad⟩) ac
 | .one i t,listed,a,w,F,G=>by
  simp only[Fg,CN,Di]at F;obtain⟨⟨h,O⟩,ae⟩:=F;refine⟨by rw[h];simp,fun j J=>?_⟩;have af:=J;rw[h]at J;obtain rfl:j=i:=by simpa using J
  exact FJ af G (fun z w' I=>DW t _ z w' ae I)
 | .two i t j u,listed,a,w,F,G=>by
  simp only[Fg,CN,Di]at F;obtain⟨⟨⟨⟨⟨h,O⟩,ag⟩,ah⟩,L⟩,M⟩:=F;refine⟨by rw[h];simp,fun k hk=>?_⟩;have W:=hk;rw[h]at hk;simp only[List.mem_cons,List.not_mem_nil,or_false]at hk;rcases hk with rfl|rfl
  ·exact FJ W G.1 (fun z w' I=>DW t _ z w' L I)
  ·refine FJ W G.2 (fun z w' I=>?_);have:=DW u _ z w' M I;rw[<-ah]at this;exact this
 | .three i t j u k v,listed,a,w,F,G=>by
  simp only[Fg,CN,Di]at F;obtain⟨⟨⟨⟨⟨⟨⟨⟨h,O⟩,ag⟩,al⟩,ai⟩,aj⟩,L⟩,M⟩,ak⟩:=F;refine⟨by rw[h];simp,fun m K=>?_⟩;have N:=K;rw[h]at K;simp only[List.mem_cons,List.not_mem_nil,or_false]at K;rcases K with rfl|rfl|rfl
  ·exact FJ N G.1 (fun z w' I=>DW t _ z w' L I)
  ·refine FJ N G.2.1 (fun z w' I=>?_);have:=DW u _ z w' M I;rw[<-ai]at this;exact this
  ·refine FJ N G.2.2 (fun z w' I=>?_);have:=DW v _ z w' ak I;rw[<-aj]at this;exact this
theorem Jd{l:List Oper}{n:Nat}(J:Region.noSelect l.toArray=true)(hs:Region.sinkB md l.toArray n=true)(K:Region.chainB md l.toArray n=true)(L:n<l.toArray.size)(t:FQ)
  (M:∀c a w d v,Q (.panic c) (a.put d v) w->Q (.panic c) a w):∀(h:List Nat) (listed:Array Bool) (a:Act) (w:World),HeadInv md l.toArray n listed->Mm md l.toArray n t h listed=true->S w->
  Gd P l.toArray S (fun X=>ES P l.toArray S Q l t X w) (pick h l) a->wpAnyS P md l.toArray Q S n (h.length+t.len) listed a w
 |[],listed,a,w,_,F,_,z=>by
  rw[CU,Dc];exact DW t listed a w F z
 |q::h,listed,a,w,N,F,O,z=>by
  simp only[Mm,CN,Di]at F;obtain⟨⟨⟨W,aa⟩,ab⟩,ac⟩:=F;have G:q∈Region.ready md l.toArray listed:=(by simpa using aa);obtain⟨_,o,I,_⟩:=mem_ready.1 G;have ad:l[q]? =some o:=(by simpa using I);rw[FG ad]at z;obtain⟨v,hy,ae⟩:=z;rw[BR,show h.length+1+t.len=(h.length+t.len)+1 by omega];exact wpAnyS_first I (Region.noSelect_spec J) (fun c a w z=>M c a w _ _ z) hs K L W _ listed a w N (Region.free_spec I ab) G hy O
   (Jd J hs K L t M h _ _ w (N.set G W) ac O ae)
theorem KT{id:Nat}{a:Act}{w:World}{l:List Oper}(h:List Nat)(t:FQ)(G:P.follows .mixedOrders=true)
  (F:(Region.noSelect l.toArray&&Region.sinkB .any l.toArray (l.length-1)&&Region.chainB .any l.toArray (l.length-1)&&decide (0<l.length)&&decide (h.length+t.len=l.length)&&Mm .any l.toArray (l.length-1) t h (Array.replicate l.toArray.size false))=true)
  (S:World->Prop) (I:S w.drew) (J:∀c a w d v,Q (.panic c) (a.put d v) w->Q (.panic c) a w) (K:Gd P l.toArray S (fun L=>ES P l.toArray S Q l t L w.drew) (pick h l) a):(Code.region id l.toArray true).wp P Q a w:=by
 simp only[CN,Di]at F;obtain⟨⟨⟨⟨⟨M,hs⟩,N⟩,z⟩,O⟩,W⟩:=F;refine wp_region_any G (Gy (n:=l.length-1) (S:=S) _ _ _ _ ?_);have X:HeadInv .any l.toArray (l.length-1) (Array.replicate l.toArray.size false):=
  ⟨by simp,fun j ab _ z=>(by rw[getD_replicate_false]at z;cases z),fun t _ aa=>getD_in (by simpa using aa) (getD_replicate_false _ _)⟩
 have:=Jd (md:=.any) M hs N (by simp;omega) t J h _ a w.drew X W I K;rw[O]at this;simpa using this
theorem CL{l:List Oper}{i:Nat}{o:Oper}{a:Act}{w:World}(h:l[i]? =some o)(z:wpList P ops Q [o] a w):ES P ops S Q l (.last i) a w:=by
 unfold ES;rw[h];exact z
end
end
end Go.Proofs.YtdhfhphbkfgamaaGreat
