/- A part. -/
import Derived.Test.YtdhfhphbkfgamaaGreatRows
import Derived.WalkKit
import Derived.WalkSpells
import Derived.WalkLawsBesides
import Derived.Deep.QuietTactic
import Derived.BigQuiet
import Derived.Deep.RegionWith
import Derived.Deep.RegionLaw
import Derived.StillTailTactics
import Derived.Lib.Hide
import Derived.Handy
import Derived.Deep.DeepFit
import Derived.Deep.DeepCutAuto
import Derived.Deep.OwnRows
import Derived.Deep.AppendLies
import Derived.Maps.AppendAt
import Derived.Deep.AppendSrc
import Derived.Deep.Upon
import Derived.Lib.FrozenHead2
import Derived.Deep.RegionHeld3
set_option maxRecDepth 100000
set_option linter.all false
namespace Go.Proofs.YtdhfhphbkfgamaaGreat
section
open Go.RowKit Proofs.Tryz
theorem BH{α:Type _}(l:List α)(i:Nat)(a:α):l.toArray.setIfInBounds i a=(l.set i a).toArray:=List.setIfInBounds_toArray ..
theorem BI{α:Type _}{a b:α}{l:List α} :(a::l).set 0 b=b::l:=List.set_cons_zero
theorem BJ{α:Type _}{a b:α}{l:List α}{i:Nat} :(a::l).set (i+1) b=a::l.set i b:=List.set_cons_succ
theorem Au{p:Prop}[z:Decidable p](h:p):decide p=true:=_root_.decide_eq_true h
theorem As{p:Prop}[z:Decidable p](h:¬p):decide p=false:=_root_.decide_eq_false h
theorem Bd{α:Type _}[BEq α][LawfulBEq α]{a b:α}(h:a≠b):(a==b)=false:=beq_eq_false_iff_ne.2 h
theorem BG{α:Type _}{l m:List α} :(l++m).length=l.length+m.length:=List.length_append
theorem BR{α:Type _}{a:α}{l:List α} :(a::l).length=l.length+1:=List.length_cons
theorem Cj{α:Type _}{a:α} :[a].length=1:=List.length_singleton
theorem AP{c:Prop}{z:Decidable c}(h:¬c){α:Sort _}{t e:α} :ite c t e=e:=_root_.if_neg h
theorem Ai{c:Prop}{z:Decidable c}(h:c){α:Sort _}{t e:α} :ite c t e=t:=_root_.if_pos h
theorem BN(n:Nat):n<=n:=Nat.le_refl n
theorem BC{a b:Prop}(x:a)(y:b):a/\b:=⟨x,y⟩
theorem Aj{a b:Prop}(h:a)(k:¬a):b:=(k h).elim
theorem DZ{a b c:Nat}(h:a<b)(k:b<=c):a<c:=Nat.lt_of_lt_of_le h k
theorem JY{α:Type _}[BEq α][LawfulBEq α]{a b:α}(h:a≠b):(a !=b)=true:=bne_iff_ne.2 h
theorem Xa{α:Type _}[BEq α][LawfulBEq α]{a b:α}(h:a=b):(a==b)=true:=beq_iff_eq.2 h
theorem D8{α:Type _}{i:Nat}{l:List α} :(l.drop i).length=l.length-i:=List.length_drop
theorem E0{a b c:Nat}(h:a<=b)(k:b<=c):a<=c:=Nat.le_trans h k
theorem JH{α:Sort _}(e:α):∃x,x=e:=⟨e,rfl⟩
theorem U{α:Sort _}(e:α):∃x,e=x:=⟨e,rfl⟩
theorem DD(n:Nat):0<=n:=Nat.zero_le n
def A4:= @beq_eq_false_iff_ne
def CZ:= @List.getElem?_eq_getElem
def Du:= @List.take_succ_eq_append_getElem
def EK:= @List.getD_eq_getElem?_getD
def CN:= @Bool.and_eq_true
def BW:= @World.size_alloc
def DA:= @List.mem_singleton
def CU:= @List.length_nil
def Di:= @decide_eq_true_eq
def Cp:= @List.getElem_mem
def Ex:= @decide_eq_false_iff_not
def Dw:= @List.take_length
def Ev:= @World.grownBy_alloc
def Gx:= @List.getElem?_append_left
def Ig:= @List.getElem?_append_right
def En:= @List.mem_cons_self
def EP:= @Int.natCast_add
def FN:= @List.map_append
def Fw:= @List.length_take
def II:= @List.getElem?_map
def Fv:= @List.append_nil
def Dc:= @Nat.zero_add
def GB:= @List.flatten_append
def GX:= @Bool.or_eq_true
def DQ:= @beq_iff_eq
def IG:= @List.drop_eq_nil_of_le
def ID:= @List.mem_append
theorem Z{p:Prop}(h:p):Hid p:=h
def Y(w:World)(g:Nat)(t:TypeId)(cs:Array Value):Prop:=w.heap[g]? =some (.cells cs t (0,0))
section
variable {w w':World}{g:Nat}{t:TypeId}{cs:Array Value}
theorem Y.lt(h:Y w g t cs):g<w.heap.size:=by
 rcases Nat.lt_or_ge g w.heap.size with z|F
 ·exact z
 ·unfold Y at h;rw[Array.getElem?_eq_none F]at h;cases h
theorem Y.cell(h:Y w g t cs)(i:Nat):w.cell? ⟨g,i,none⟩=cs[i]? :=cell_of_row w g i cs t (0,0) h
theorem Y.frozen(h:Y w g t cs)(i:Nat):w.frozen? ⟨g,i,none⟩=false:=by
 unfold Y at h;simp[World.frozen?,h]
theorem Y.c5{a b c d e:Value}(h:Y w g t #[a,b,c,d,e]):(w.cell? ⟨g,0,none⟩=some a/\w.cell? ⟨g,1,none⟩=some b/\w.cell? ⟨g,2,none⟩=some c/\w.cell? ⟨g,3,none⟩=some d/\w.cell? ⟨g,4,none⟩=some e)/\
  w.frozen? ⟨g,0,none⟩=false/\w.frozen? ⟨g,1,none⟩=false/\w.frozen? ⟨g,2,none⟩=false/\w.frozen? ⟨g,3,none⟩=false/\w.frozen? ⟨g,4,none⟩=false:=
 ⟨⟨h.cell 0,h.cell 1,h.cell 2,h.cell 3,h.cell 4⟩,h.frozen 0,h.frozen 1,h.frozen 2,h.frozen 3,h.frozen 4⟩
theorem Y.new(w:World)(t:TypeId)(cs:Array Value):Y (w.alloc (.cells cs t)) w.heap.size t cs:=heap_alloc_new w _
theorem Y.drew(h:Y w g t cs):Y w.drew g t cs:=h
theorem Y.drewN(h:Y w g t cs)(n:Nat):Y (w.drewN n) g t cs:=h
theorem Y.alloc(h:Y w g t cs)(o:Obj):Y (w.alloc o) g t cs:=(Below.heap_alloc w o g h.lt).trans h
theorem Y.AW(h:Y w g t cs)(i:Nat)(u:Value):Y (w.setCell ⟨g,i,none⟩ u) g t (cs.setIfInBounds i u):=by
 unfold Y at h⊢;simp[World.setCell,Array.getElem?_modify,h]
theorem Y.Bi(h:Y w g t cs){p:Addr}(z:g≠p.block)(u:Value):Y (w.setCell p u) g t cs:=(Below.heap_setCell w p u g z).trans h
theorem Y.below{B:Nat}(h:Y w g t cs)(z:Below B w w')(F:g<B):Y w' g t cs:=(z.block g F).trans h
theorem Y.grown{row:Option Nat}(h:Y w g t cs)(z:w.grownBy w' row)(F:some g≠row):Y w' g t cs:=(z.block g h.lt F).trans h
end
theorem AB(a:World)(row:Option Nat):a.grownBy a row:=World.grownBy.refl a _
theorem At{a w:World}{row:Option Nat}(h:a.grownBy w row)(n:Nat):a.grownBy (w.drewN n) row:=⟨h.os,h.tape,h.output,h.size,h.block⟩
theorem Ah{a w:World}{row:Option Nat}(h:a.grownBy w row):a.grownBy w.drew row:=⟨h.os,h.tape,h.output,h.size,h.block⟩
theorem AF{a w:World}{row:Option Nat}(h:a.grownBy w row)(o:Obj):a.grownBy (w.alloc o) row:=
 ⟨h.os,h.tape,h.output,E0 h.size (by simp),fun i z F=>(Below.heap_alloc w o i (DZ z h.size)).trans (h.block i z F)⟩
theorem AN{a w:World}{g:Nat}(h:a.grownBy w (some g)){p:Addr}(z:p.block=g\/a.heap.size<=p.block)(u:Value):a.grownBy (w.setCell p u) (some g):=
 ⟨h.os,h.tape,h.output,by simpa [World.setCell]using h.size,fun i G F=>(Below.heap_setCell w p u i (by
  rintro rfl;rcases z with z|z
  ·exact F (by rw[z])
  ·omega)).trans (h.block i G F)⟩
theorem Af{a w:World}(h:a.grownBy w none){p:Addr}(G:a.heap.size<=p.block)(u:Value):a.grownBy (w.setCell p u) none:=
 ⟨h.os,h.tape,h.output,by simpa [World.setCell]using h.size,fun i z F=>(Below.heap_setCell w p u i (by
  rintro rfl;omega)).trans (h.block i z F)⟩
theorem Cc{a w:World}(h:a.grownBy w none)(row:Option Nat):a.grownBy w row:=⟨h.os,h.tape,h.output,h.size,fun i z _=>h.block i z (by simp)⟩
theorem AJ{a b c:World}{row:Option Nat}(h:a.grownBy b row)(k:b.grownBy c row):a.grownBy c row:=
 ⟨k.os.trans h.os,k.tape.trans h.tape,k.output.trans h.output,E0 h.size k.size,fun i z F=>(k.block i (DZ z h.size) F).trans (h.block i z F)⟩
theorem Em{a b c:World}{g:Nat}(h:a.grownBy b none)(G:a.heap.size<=g)(k:b.grownBy c (some g)):a.grownBy c none:=
 ⟨k.os.trans h.os,k.tape.trans h.tape,k.output.trans h.output,E0 h.size k.size,fun i z F=>(k.block i (DZ z h.size) (by simp;omega)).trans (h.block i z F)⟩
theorem Ld{a w:World}(h:a.grownBy w none):Below a.heap.size a w:=⟨h.os,h.tape,h.output,h.size,fun i z=>h.block i z (by simp)⟩
theorem AI{a b c:World}(h:a.grownBy b none)(k:b.grownBy c none):a.grownBy c none:=AJ h k
section
variable {P:Program}{ops:Array Oper}{md:Region.Mode}{C:World->Prop}
def Jc(P:Program)(md:Region.Mode)(ops:Array Oper)(C:World->Prop)(n:Nat)(h:Array Bool->Act->Prop):Nat->Array Bool->Act->Prop
 |0,listed,a=>h listed a
 |f+1,listed,a=>
  Region.ready md ops listed≠[]/\ ∀i∈Region.ready md ops listed,i<n/\qOp P ops C i (Jc P md ops C n h f (listed.setIfInBounds i true)) a
theorem IV{n g:Nat}{F:Array Bool->Act->Prop}{Q':Exit->Act->World->Prop}(G:∀listed a w,C w->F listed a->wpAny P md ops Q' g listed a w):
  ∀(f:Nat) (listed:Array Bool) (a:Act) (w:World),C w->Jc P md ops C n F f listed a->wpAny P md ops Q' (f+g) listed a w
 |0,listed,a,w,z,h=>by rw[Dc];exact G _ _ _ z h
 |f+1,listed,a,w,z,h=>by
  rw[show f+1+g=(f+g)+1 by omega];exact⟨fun I=>Aj I h.1,fun i J=>wpOp_of_qOp z (fun K w' L M=>IV G f _ K w' L M) (h.2 i J).2⟩
theorem Li{n i:Nat}{K:Oper}{v:Value}{O:Array Bool->Act->Prop}(W:ops[i]? =some K)(aa:∀(j:Nat) (o:Oper) cs b,ops[j]? =some o->o.op≠.select cs b)
  (hs:Region.sinkB md ops n=true) (ab:Region.chainB md ops n=true) (ac:n<ops.size) (ad:i<n)
  (ai:∀listed a,O listed a-> ∀j∈Region.ready md ops listed,n<=j):
  ∀(f:Nat) (listed:Array Bool) (a:Act),HeadInv md ops n listed->
   (∀j G,ops[j]? =some G->j≠i->listed.getD j true=false->(∀e∈G.after,Region.binds md e=true->e.on≠i)->K.apart ops G=true)->
   i∈Region.ready md ops listed->YieldsIn P ops C K v a->
   Jc P md ops C n O f (listed.setIfInBounds i true) (a.put K.dst v)->Jc P md ops C n O (f+1) listed a:=by
 intro f;induction f with
 |zero=>
  intro listed a L _ z hy H;have I:=(mem_ready.1 z).1;refine⟨fun h=>(by rw[h]at z;cases z),fun j J=>?_⟩;have M:j<n:=by
   rcases Nat.lt_or_ge j n with h|h
   ·exact h
   ·exact Aj J (tail_waits hs ab ac L _ i rfl ad I j h)
  refine⟨M,?_⟩;by_cases F:j=i
  ·subst F;exact hy.qOp W H
  ·have:=ai _ _ H j (ready_mono J F);omega
 |succ f ih=>
  intro listed a L ae z hy H;have I:=(mem_ready.1 z).1;refine⟨fun h=>(by rw[h]at z;cases z),fun j J=>?_⟩;have M:j<n:=by
   rcases Nat.lt_or_ge j n with h|h
   ·exact h
   ·exact Aj J (tail_waits hs ab ac L _ i rfl ad I j h)
  refine⟨M,?_⟩;by_cases F:j=i
  ·subst F;exact hy.qOp W H
  ·have N:=(H.2 j (ready_mono J F)).2;obtain⟨af,G,X,aj⟩:=mem_ready.1 J;have ak:∀e∈G.after,Region.binds md e=true->e.on≠i:=fun e al am an=>by
    have N:=aj e al am;rw[an,getD_both I]at N;cases N
   have ao:=qOp_put X (ae j G X F af ak) (fun cs b=>aa i K cs b W) (fun cs b=>aa j G cs b X) hy N;have ap:∀k ok,ops[k]? =some ok->k≠i->(listed.setIfInBounds j true).getD k true=false->
     (∀e∈ok.after,Region.binds md e=true->e.on≠i)->K.apart ops ok=true:=fun k ok hk aq I ar=>by
    refine ae k ok hk aq ?_ ar;by_cases ag:j=k
    ·subst ag;exact af
    ·rw[getD_set_ne true ag]at I;exact I
   refine qOp_mono (fun au ah=>ih (listed.setIfInBounds j true) au (L.set J M) ap (ready_mono z (Ne.symm F)) ah.1 ?_) ao;rw[Array.setIfInBounds_comm _ _ F];exact ah.2
theorem KK{n g:Nat}{Lq:Act->Prop}(G:Region.noSelect ops=true)(hs:Region.sinkB md ops n=true)(I:Region.chainB md ops n=true)(J:n<ops.size):
  ∀(l:List Oper) (k:Nat) (listed:Array Bool) (a:Act),(∀j,j<l.length->l[j]? =ops[k+j]?)->k+l.length=n->HeadInv md ops n listed->
  Region.lexHead md ops g l.length k listed=true->wpQuiet P ops C Lq l a->
  Jc P md ops C n (fun K L=>Region.seqB md ops g n K=true/\Lq L) l.length listed a
 |[],k,listed,a,_,hk,_,h,F=>by
  have:k=n:=(by simpa using hk);subst this;exact⟨by simpa [Region.lexHead]using h,F⟩
 |o::l,k,listed,a,M,hk,N,h,F=>by
  have z:ops[k]? =some o:=(by simpa using(M 0 (by simp)).symm);simp only[BR,Region.lexHead,CN]at h;obtain⟨⟨X,aa⟩,ab⟩:=h;have O:k<n:=(by simp only[BR]at hk;omega);have W:k∈Region.ready md ops listed:=(by simpa using X);have ac:qOp P ops C k (wpQuiet P ops C Lq l) a:=(by unfold qOp;simp only[z];exact F);obtain⟨v,hy,ad⟩:=yieldsIn_of_qOp z ac;exact Li z (Region.noSelect_spec G) hs I J O (fun K L ae=>seqB_ready ae.1) l.length listed a N (Region.free_spec z aa) W hy
   (KK G hs I J l (k+1) _ _ (fun j af=>by have:=M (j+1) (by simp;omega);simpa [Nat.add_assoc,Nat.add_comm 1 j]using this) (by simp only[BR]at hk;omega) (N.set W O) ab ad)
theorem Bh{id:Nat}{Q:Exit->Act->World->Prop}{a:Act}{w:World}{l:List Oper}(n:Nat)(M:P.follows .mixedOrders=true)(F:Region.lexTailB .any l.toArray n=true)
  (N:wpQuiet P l.toArray (fun w'=> ∃n,w'=w.drewN n) (fun z=> ∀w',(∃n,w'=w.drewN n)->wpList P l.toArray Q (l.drop n) z w') (l.take n) a):(Code.region id l.toArray true).wp P Q a w:=by
 simp only[Region.lexTailB,CN,Di]at F;obtain⟨⟨⟨⟨O,G⟩,hs⟩,W⟩,X⟩:=F;have ae:n<l.length:=(by simpa using G);have h:(l.take n).length=n:=(by simp;omega);have I:(l.drop n).length=l.toArray.size-n:=(by simp);have aa:HeadInv .any l.toArray n (Array.replicate l.toArray.size false):=
  ⟨by simp,fun j af _ J=>(by rw[getD_replicate_false]at J;cases J),fun t _ ab=>getD_in (by simpa using ab) (getD_replicate_false _ _)⟩
 have H:=KK (C:=fun w'=> ∃n,w'=w.drewN n) (md:=.any) (g:=l.toArray.size-n) O hs W G (l.take n) 0 _ a (fun j K=>by
  have ac:j<n:=(by rw[h]at K;exact K);simp[ac]) (by simpa using h) aa (by rw[h];exact X) N
 refine wp_region_any M ?_;have:=IV (Q':=Q) (g:=l.toArray.size-n) (fun listed z w' ad L=>by
  have:=wpAny_of_seq (md:=.any) (Q':=Q) (l.drop n) n listed z w' (fun j=>by simp[List.getElem?_drop]) (by rw[I];exact L.1) (L.2 w' ad);rwa [I]at this) _ _ _ { w with drawn:=w.drawn+1 } ⟨1,rfl⟩ H
 rw[h,show n+(l.toArray.size-n)=l.toArray.size by omega]at this;exact this
end
theorem Hd{P:Program}{ops:Array Oper}{rest:List Oper}{o:Oper}{a:Act}{w:World}{Q:Exit->Act->World->Prop}(v:Value)(w':World)(h:o.guard=none)
  (z:(execOp a.eval o).run P w=.ok (.value v) w') (F:wpList P ops Q rest (a.put o.dst v) w'):wpList P ops Q (o::rest) a w:=
 wpList_plain h fun _ G=>by
  unfold Oper.wp;rw[z];exact G _ _ F
theorem KO{P:Program}{ops:Array Oper}{C:World->Prop}{Q:Act->Prop}{rest:List Oper}{o:Oper}{a:Act}(v:Value)(h:o.guard=none)
  (z:∀w,C w->(execOp a.eval o).run P w=.ok (.value v) w) (F:wpQuiet P ops C Q rest (a.put o.dst v)):wpQuiet P ops C Q (o::rest) a:=
 wpQuiet_step fun J G=>by
  rw[Ai (by simp[Region.wanted,h])];exact⟨v,fun w I=>by unfold Oper.quietAt;rw[z w I];exact⟨rfl,rfl⟩,G _ F⟩
theorem IY{P:Program}{ops:Array Oper}{C:World->Prop}{Q:Act->Prop}{rest:List Oper}{a:Act}{d:Option Tmp}{t T h:TypeId}{z:String}{F:Array Edge}{x y:Operand}(s1 s2:ByteArray)
  (hx:a.eval x=.string s1) (hy:a.eval y=.string s2) (hs:s1.size+s2.size<=9223372036854775807) (G:wpQuiet P ops C Q rest (a.put d (.string (s1++s2)))):wpQuiet P ops C Q (⟨d,.binOp .add T x y h,t,z,F,none⟩::rest) a:=
 KO (.string (s1++s2)) rfl (fun w _=>by simp[execOp,hx,hy,eqGuard,binOp_string_add,run_string_add_sum (P:=P) (w:=w) s1 s2 hs]) G
theorem foldl_push_bytes(l:List UInt8):∀s:ByteArray,(l.map (fun c=>(c.toNat:Int))).foldl (fun r n=>r.push (UInt8.ofNat n.toNat)) s=⟨s.data++l.toArray⟩:=by
 induction l with
 |nil=>intro s;simp
 |cons c l ih=>
  intro s;simp only[List.map_cons,List.foldl_cons,ih];congr 1
  show(s.data.push _)++_=_;apply Array.ext';simp
theorem Iy{P:Program}(w:World){src h e:TypeId}(hs:P.underlying src=some (.slice e))(G:P.underlying e=some (.int .u8))(I:P.underlying h=some .string)
  (a:Addr) (l:List UInt8) (c:Nat) (J:∀i (L:i<l.length),w.cell? (a.add i)=some (.int .u8 l[i].toNat)):
  (convert src h (.slice (some a) l.length c)).run P w=.ok (.string ⟨l.toArray⟩) w:=by
 rw[run_convert_bytes_string w src h e _ _ _ hs G I];have z:=run_loadCells_list (P:=P) (w:=w) a ((l.map (fun c=>(c.toNat:Int))).map (Value.int .u8)) (by
  intro j v F;rw[List.map_map,II]at F;obtain⟨x,hx,rfl⟩:=Option.map_eq_some_iff.1 F;obtain⟨K,rfl⟩:=List.getElem?_eq_some_iff.1 hx;exact J j K)
 simp only[List.length_map]at z;rw[run_bytesToString w a l.length c _ z,foldl_push_bytes];simp
theorem Ov{P:Program}{ops:Array Oper}{rest:List Oper}{a:Act}{w:World}{Q:Exit->Act->World->Prop}{d:Option Tmp}{t:TypeId}{h:String}{z:Array Edge}{x y:Operand}{ts:Array TypeId}
  (k m n:Int) (hx:a.eval x=.int .i64 m) (hy:a.eval y=.int .i64 n) (hk:k=min m n)
  (F:wpList P ops Q rest (a.put d (.int .i64 k)) w):wpList P ops Q (⟨d,.call { callee:=.builtin .min,args:=#[x,y],argTypes:=ts },t,h,z,none⟩::rest) a w:=by
 refine Hd (.int .i64 k) w rfl ?_ F;have G:k=if n<m then n else m:=(by rw[hk];by_cases c:n<m<;>simp[c]<;>omega);rw[G];simp[execOp,resolve,invoke,builtin,Builtin.min_,Builtin.min2,hx,hy]
theorem Km{P:Program}{ops:Array Oper}{rest:List Oper}{a:Act}{w:World}{Q:Exit->Act->World->Prop}{d:Option Tmp}{t:TypeId}{h:String}{z:Array Edge}{x y:Operand}{ts:Array TypeId}
  (k m n:Int) (hx:a.eval x=.int .i64 m) (hy:a.eval y=.int .i64 n) (hk:k=max m n)
  (F:wpList P ops Q rest (a.put d (.int .i64 k)) w):wpList P ops Q (⟨d,.call { callee:=.builtin .max,args:=#[x,y],argTypes:=ts },t,h,z,none⟩::rest) a w:=by
 refine Hd (.int .i64 k) w rfl ?_ F;have G:k=if n>m then n else m:=(by rw[hk];by_cases c:m<n<;>simp[c]<;>omega);rw[G];simp[execOp,resolve,invoke,builtin,Builtin.max_,Builtin.max2,hx,hy]
end
section
open Go.RowKit Proofs.Tryz
structure Az(S:Nat->Prop)(w w':World):Prop where
 os:w'.os=w.os
 tape:w'.tape=w.tape
 output:w'.output=w.output
 size:w.heap.size<=w'.heap.size
 block:∀k,k<w.heap.size-> ¬S k->w'.heap[k]? =w.heap[k]?
def EH:Nat->Prop:=fun _=>False
def YB(b:Nat):Nat->Prop:=fun k=>k=b
section
variable {S T:Nat->Prop}{a b c w w':World}
theorem Az.refl(S:Nat->Prop)(w:World):Az S w w:=⟨rfl,rfl,rfl,BN _,fun _ _ _=>rfl⟩
theorem Az.drewN(h:Az S a w)(n:Nat):Az S a (w.drewN n):=⟨h.os,h.tape,h.output,h.size,h.block⟩
theorem Az.drew(h:Az S a w):Az S a w.drew:=⟨h.os,h.tape,h.output,h.size,h.block⟩
theorem Az.alloc(h:Az S a w)(o:Obj):Az S a (w.alloc o):=
 ⟨h.os,h.tape,h.output,by rw[BW];have:=h.size;omega,fun k hk z=>(Below.heap_alloc w o k (DZ hk h.size)).trans (h.block k hk z)⟩
theorem Az.setCell(h:Az S a w){p:Addr}(z:S p.block\/a.heap.size<=p.block)(u:Value):Az S a (w.setCell p u):=
 ⟨h.os,h.tape,h.output,by rw[World.size_setCell];exact h.size,fun k hk F=>(Below.heap_setCell w p u k (by
  intro e;rcases z with z|z
  ·exact F (e▸z)
  ·omega)).trans (h.block k hk F)⟩
theorem Az.trans(h:Az S a b)(k:Az T b c)(G:∀i,i<a.heap.size->T i->S i):Az S a c:=
 ⟨k.os.trans h.os,k.tape.trans h.tape,k.output.trans h.output,E0 h.size k.size,fun i z F=>(k.block i (DZ z h.size) (fun I=>F (G i z I))).trans (h.block i z F)⟩
theorem Az.mono(h:Az S a b)(F:∀i,i<a.heap.size->S i->T i):Az T a b:=
 ⟨h.os,h.tape,h.output,h.size,fun i z G=>h.block i z (fun I=>G (F i z I))⟩
theorem Az.AL{row:Option Nat}(h:a.grownBy b row)(z:∀k,row=some k->S k):Az S a b:=
 ⟨h.os,h.tape,h.output,h.size,fun i F G=>h.block i F (fun e=>G (z i e.symm))⟩
theorem Az.grown(h:Az S a b)(F:∀k,k<a.heap.size-> ¬S k):a.grownBy b none:=
 ⟨h.os,h.tape,h.output,h.size,fun i z _=>h.block i z (F i z)⟩
theorem Az.freeze(h:Az S a w){p:Addr}(z:S p.block\/a.heap.size<=p.block)(n:Nat):Az S a (w.freeze p n):=by
 unfold World.freeze;split
 ·exact h
 ·refine⟨h.os,h.tape,h.output,by simp only[Array.size_modify];exact h.size,fun k hk F=>?_⟩;simp only[Array.getElem?_modify];rw[AP (by
   intro e;rcases z with z|z
   ·exact F (e▸z)
   ·omega)]
  exact h.block k hk F
theorem Az.cell(h:Az S a b){p:Addr}(z:p.block<a.heap.size)(F:¬S p.block):b.cell? p=a.cell? p:=World.cell?_of_block (h.block p.block z F)
theorem Y.Bo{g:Nat}{t:TypeId}{h:Array Value}(z:Y w g t h)(F:Az S w w')(G:¬S g):Y w' g t h:=(F.block g z.lt G).trans z
end
def Own(w:World)(e:TypeId)(size:Nat)(v:Value)(n:Nat)(xs:List Value)(k:Nat):Prop:=
 xs.length=n*size/\((v=.slice none 0 0/\n=0)\/
  ∃g h z F G,v=.slice (some ⟨g,h,none⟩) n z/\w.heap[g]? =some (.cells F e G)/\G.2<=h+k/\n<=z/\z<=maxLen/\h+z*size<=F.size/\ ∀j,j<n*size->F[h+j]? =xs[j]?)
theorem I7{g o:Nat}{e:TypeId}{G:Nat×Nat} :∀(F:List Value) (o:Nat) (h:Array Value) (w:World),w.heap[g]? =some (.cells h e G)->o+F.length<=h.size->
  ∃z,(w.setCells g o F).heap[g]? =some (.cells z e G)/\z.size=h.size/\(∀j,j<F.length->z[o+j]? =F[j]?)/\ ∀i,i<o->z[i]? =h[i]?
 |[],o,h,w,I,_=>⟨h,I,rfl,fun j J=>Aj J (Nat.not_lt_zero _),fun _ _=>rfl⟩
 |v::r,o,h,w,I,L=>by
  have M:(w.setCell ⟨g,o,none⟩ v).heap[g]? =some (.cells (h.setIfInBounds o v) e G):=(by simp[World.setCell,Array.getElem?_modify,I]);simp only[BR]at L;obtain⟨z,N,O,W,K⟩:=I7 (g:=g) (o:=o) r (o+1) _ _ M (by simp only[Array.size_setIfInBounds];omega);refine⟨z,N,by rw[O,Array.size_setIfInBounds],fun j J=>?_,fun i X=>?_⟩
  ·cases j with
   |zero=>rw[Nat.add_zero,K o (by omega),Array.getElem?_setIfInBounds_self_of_lt (by omega)];rfl
   |succ j=>
    have:=W j (by simp only[BR]at J;omega);rw[show o+(j+1)=o+1+j by omega,this];rfl
  ·rw[K i (by omega),Array.getElem?_setIfInBounds_ne (by omega)]
section
variable {w w':World}{e:TypeId}{size n k:Nat}{v:Value}{xs:List Value}{S:Nat->Prop}
theorem Own.nil(w:World)(e:TypeId)(size k:Nat):Own w e size (.slice none 0 0) 0 [] k:=⟨by simp,.inl ⟨rfl,rfl⟩⟩
theorem Own.len(h:Own w e size v n xs k):xs.length=n*size:=h.1
theorem Own.lt(z:Own w e size v n xs k){b:Nat}(h:v.ownBlock=some b):b<w.heap.size:=by
 rcases z.2 with⟨rfl,_⟩|⟨g,G,I,J,K,rfl,F,_⟩
 ·simp[Value.ownBlock]at h
 ·simp[Value.ownBlock]at h;subst h;exact(Array.getElem?_eq_some_iff.1 F).1
theorem Own.EO(h:Own w e size v n xs k)(z:∀b,v.ownBlock=some b->w'.heap[b]? =w.heap[b]?):Own w' e size v n xs k:=by
 refine⟨h.1,?_⟩;rcases h.2 with F|⟨g,G,I,J,K,rfl,L,rest⟩
 ·exact .inl F
 ·exact .inr ⟨g,G,I,J,K,rfl,(z g rfl).trans L,rest⟩
theorem Own.Bo(h:Own w e size v n xs k)(F:Az S w w')(G:∀b,v.ownBlock=some b-> ¬S b):Own w' e size v n xs k:=
 h.EO fun b z=>F.block b (h.lt z) (G b z)
theorem Own.mono{h:Nat}(z:Own w e size v n xs k)(hk:k<=h):Own w e size v n xs h:=by
 refine⟨z.1,?_⟩;rcases z.2 with F|⟨g,G,I,J,K,rfl,L,M,rest⟩
 ·exact .inl F
 ·exact .inr ⟨g,G,I,J,K,rfl,L,by omega,rest⟩
theorem Own.some_(G:Own w e size v n xs k)(O:0<n):∃g h z,v=.slice (some ⟨g,h,none⟩) n z/\n<=z/\z<=maxLen/\g<w.heap.size/\ ∀j,j<n*size->w.cell? ⟨g,h+j,none⟩=xs[j]? :=by
 rcases G.2 with⟨_,W⟩|⟨g,h,z,I,J,rfl,F,_,K,L,_,M⟩
 ·omega
 ·exact⟨g,h,z,rfl,K,L,(Array.getElem?_eq_some_iff.1 F).1,fun j N=>(cell_of_row w g (h+j) I e J F).trans (M j N)⟩
theorem Own.form(z:Own w e size v n xs k):∃a h,v=.slice a n h/\n<=h/\h<=maxLen:=by
 rcases z.2 with⟨rfl,rfl⟩|⟨g,I,h,J,K,rfl,L,_,F,G,_,M⟩
 ·exact⟨none,0,rfl,BN _,by unfold maxLen;omega⟩
 ·exact⟨_,_,rfl,F,G⟩
theorem Own.set{g h G:Nat}(z:Own w e size (.slice (some ⟨g,h,none⟩) n G) n xs k)(j:Nat)(ah:j<n*size)(u:Value):Own (w.setCell ⟨g,h+j,none⟩ u) e size (.slice (some ⟨g,h,none⟩) n G) n (xs.set j u) k:=by
 refine⟨by rw[List.length_set];exact z.1,?_⟩;rcases z.2 with⟨L,_⟩|⟨ai,aj,ak,I,M,N,O,W,X,aa,ab,J⟩
 ·cases L
 ·injection N with F _ ac;injection F with F;injection F with ad ae _;subst ad ae ac;have al:=z.1;refine .inr ⟨_,_,_,I.setIfInBounds (h+j) u,M,rfl,by simp[World.setCell,Array.getElem?_modify,O],W,X,aa,by simpa using ab,fun i K=>?_⟩;by_cases af:i=j
  ·subst af;have ag:h+i<I.size:=by
    have:=J i K;rw[CZ (by omega)]at this;exact(Array.getElem?_eq_some_iff.1 this).1
   rw[Array.getElem?_setIfInBounds_self_of_lt ag,List.getElem?_set_self (by omega)]
  ·rw[Array.getElem?_setIfInBounds_ne (by omega),List.getElem?_set_ne (by omega)];exact J i K
theorem Own.from_{g F h:Nat}(G:Own w e size (.slice (some ⟨g,F,none⟩) n h) n xs k)(m:Nat)(I:m<=n):Own w e size (.slice (some ⟨g,F+m*size,none⟩) (n-m) (h-m)) (n-m) (xs.drop (m*size)) (k-m*size):=by
 refine⟨by rw[D8,G.1,Nat.sub_mul],?_⟩;rcases G.2 with⟨J,_⟩|⟨ab,ac,ad,K,L,M,N,ae,af,ag,ah,O⟩
 ·cases J
 ·injection M with z _ W;injection z with z;injection z with X aa _;subst X aa W;refine .inr ⟨_,_,_,K,L,rfl,N,by omega,by omega,by omega,?_,fun i ai=>?_⟩
  ·have:m*size+(h-m)*size=h*size:=(by rw[<-Nat.add_mul,Nat.add_sub_of_le (by omega)]);omega
  ·rw[List.getElem?_drop,Nat.add_assoc];exact O _ (by have:m*size+(n-m)*size=n*size:=(by rw[<-Nat.add_mul,Nat.add_sub_of_le I]);omega)
theorem Own.empty{g z F:Nat}(G:Own w e size (.slice (some ⟨g,z,none⟩) n F) n xs k):Own w e size (.slice (some ⟨g,z,none⟩) 0 0) 0 [] k:=by
 refine⟨by simp,?_⟩;rcases G.2 with⟨I,_⟩|⟨ab,ac,ad,J,K,L,M,N,ae,af,ag,ah⟩
 ·cases I
 ·injection L with h _ O;injection h with h;injection h with W X _;subst W X O;exact .inr ⟨_,_,_,J,K,rfl,M,N,BN _,by unfold maxLen;omega,by omega,fun j aa=>Aj aa (by simp)⟩
theorem Own.frozen0{g h F:Nat}(G:Own w e size (.slice (some ⟨g,h,none⟩) n F) n xs 0)(j:Nat):w.frozen? ⟨g,h+j,none⟩=false:=by
 rcases G.2 with⟨I,_⟩|⟨aa,ab,ac,ad,J,K,L,M,_⟩
 ·cases I
 ·injection K with z _ N;injection z with z;injection z with O W _;subst O W N;obtain⟨ae,X⟩:=J;simp only at M;have:¬(h+j<X):=(by omega);simp[World.frozen?,L,this]
theorem Own.alloc(h:Own w e size v n xs k)(o:Obj):Own (w.alloc o) e size v n xs k:=h.EO fun b z=>Below.heap_alloc w o b (h.lt z)
theorem Own.Bi(h:Own w e size v n xs k){p:Addr}(z:v.ownBlock≠some p.block)(u:Value):Own (w.setCell p u) e size v n xs k:=
 h.EO fun b F=>Below.heap_setCell w p u b (fun e=>z (e▸F))
theorem Own.made(w:World)(h:Array Value)(e:TypeId)(size n:Nat)(k:Nat)(hs:h.size=n*size)(z:n<=maxLen):Own (w.alloc (.cells h e)) e size (.slice (some ⟨w.heap.size,0,none⟩) n n) n h.toList k:=
 ⟨by simpa using hs,.inr ⟨_,_,_,h,(0,0),rfl,heap_alloc_new w _,DD _,BN _,z,by omega,fun j _=>by simp⟩⟩
theorem Own.src{P:Program}(F:Own w e size v n xs k){tx e':TypeId}(hk:P.underlying tx=some (.slice e'))(I:∀u∈xs,u.oneCell'=true):Src P size tx v n xs w:=by
 have h:=F.1;rcases F.2 with⟨rfl,rfl⟩|⟨g,z,W,J,K,rfl,L,_,_,_,_,M⟩
 ·have:xs=[]:=List.eq_nil_of_length_eq_zero (by simpa using h);subst this;exact Src.ofNil w hk 0
 ·refine Src.ofSlice w hk _ _ _ xs h (fun j u G=>?_) I;have N:j<n*size:=by
   rw[<-h];exact(List.getElem?_eq_some_iff.1 G).1
  have O:(⟨g,z,none⟩:Addr).add j=⟨g,z+j,none⟩:=(by unfold Addr.add;split<;>simp_all);rw[O,cell_of_row w g (z+j) J e K L,M j N,G]
end
section
variable {P:Program}
theorem I8(w:World)(t tx N e:TypeId)(i:TypeInfo)(ac:Value)(size bytes:Nat)(ad:P.underlying t=some (.slice e))(ae:P.info? e=some i)(an:i.zero=some ac)
  (ao:i.size=size) (ap:i.bytes=bytes) (aq:ac.cells.size=size)
  (v:Value) (n:Nat) (xs:List Value) (k:Nat) (W:Own w e size v n xs k) (hk:k<=n*size)
  (x:Value) (m:Nat) (h:List Value) (hs:Src P size tx x m h w) (aj:n+m<=maxLen) (ar:(n+m)*bytes<=140737488355328):
  ∃z w',(Builtin.append_ #[t,tx] N #[v,x]).run P w=.ok z w'/\Own w' e size z (n+m) (xs++h) k/\Az (fun b=>v.ownBlock=some b) w w'/\
   (∀b,z.ownBlock=some b->v.ownBlock=some b\/w.heap.size<=b)/\(m=0->z=v):=by
 have aI:n+m<=9223372036854775807:=(by simp only[maxLen]at aj;omega);subst ao;subst ap;have X:(xs++h).length=(n+m)*i.size:=(by rw[BG,W.1,hs.newsLen,Nat.add_mul]);have ak:∀(aa:Option Addr) (G:Nat),v=.slice aa n G->G<n+m->(Builtin.firstCells i.size n (.slice aa n G)).run P w.drew=.ok xs.toArray w.drew->
   ∃z w',(Builtin.append_ #[t,tx] N #[v,x]).run P w=.ok z w'/\Own w' e i.size z (n+m) (xs++h) k/\Az (fun b=>v.ownBlock=some b) w w'/\
   (∀b,z.ownBlock=some b->v.ownBlock=some b\/w.heap.size<=b)/\(m=0->z=v):=by
  rintro aa G rfl I hold;have au:=run_append_grow_src (P:=P) w t tx N e i ac ad ae an aa n G xs hold x m h hs I (by omega) (growslice_fits I ar);have aw:=grownCap_ge w (n+m) G e;have af:=grownCap_le_maxLen w (n+m) G e aj;refine⟨_,_,au,⟨X,.inr ⟨w.heap.size,0,_,_,(0,0),rfl,heap_alloc_new w.drew _,DD _,aw,af,?_,fun j J=>?_⟩⟩,((Az.refl _ w).drew).alloc _,fun b K=> .inr ?_,?_⟩
  ·rw[Array.size_append,List.size_toArray,X,size_zeroCells,aq,<-Nat.add_mul,Dc];exact Nat.mul_le_mul_right _ (by omega)
  ·rw[Dc,Array.getElem?_append_left (by rw[List.size_toArray,X];exact J),List.getElem?_toArray]
  ·simp[Value.ownBlock]at K;omega
  ·rintro rfl;exfalso;obtain⟨aJ,aK,ax,aL,_⟩:=W.form;injection ax with _ _ aM;omega
 have ab:=W.1;rcases W.2 with⟨rfl,rfl⟩|⟨g,F,M,ag,O,rfl,I,ay,aN,af,aO,al⟩
 ·have hx:xs=[]:=List.eq_nil_of_length_eq_zero (by simpa using ab);subst hx;rcases Nat.eq_zero_or_pos m with rfl|aP
  ·have ah:h=[]:=List.eq_nil_of_length_eq_zero (by simpa using hs.newsLen);subst ah;exact⟨_,_,run_append_nothing (P:=P) w t tx N e i ad ae none 0 0 (BN _) x hs,Own.nil w e _ k,Az.refl _ w,fun b K=> .inl K,fun _=>rfl⟩
  ·exact ak none 0 rfl (by omega) (run_firstCells_none w.drew i.size 0 0 0)
 ·by_cases ai:n+m<=M
  ·have az:(n+m)*i.size<=M*i.size:=Nat.mul_le_mul_right _ ai;rw[Nat.add_mul]at az;have aQ:=hs.newsLen;have aA:=run_append_room_src (P:=P) w t tx N e i ad ae g F n M x m h hs ai (fun j J=>by
     rw[cell_of_row w g _ ag e O I,Array.getElem?_eq_getElem (by omega)];rfl) (fun j J=>by
     have:¬(F+n*i.size+j<O.2):=(by omega);obtain⟨aR,aS⟩:=O;simp only at this;simp[World.frozen?,I,this])
   obtain⟨aB,aC,aT,aD,aE⟩:=I7 (g:=g) (o:=0) h (F+n*i.size) ag w I (by omega);refine⟨_,_,aA,⟨X,.inr ⟨g,F,M,aB,O,rfl,aC,ay,ai,af,by omega,fun j J=>?_⟩⟩,⟨World.os_setCells w g _ h,?_,World.output_setCells w g _ h,?_,fun b K ah=>World.heap_setCells_other w g _ h K (fun e=>ah (by simp[Value.ownBlock,e]))⟩,fun b K=> .inl (by simpa [Value.ownBlock]using K),fun aF=>by rw[aF,Nat.add_zero]⟩
   ·by_cases aG:j<n*i.size
    ·rw[aE _ (by omega),Gx (by omega)];exact al j aG
    ·rw[Ig (by omega),ab];have:=aD (j-n*i.size) (by rw[Nat.add_mul]at J;omega);rw[<-this];congr 1
     omega
   ·have:∀(L:List Value) (o:Nat) (w:World),(w.setCells g o L).tape=w.tape:=by
     intro L;induction L with
     |nil=>intros;rfl
     |cons u r ih=>intro o w;exact(ih (o+1) _).trans rfl
    exact this _ _ _
   ·have:∀(L:List Value) (o:Nat) (w:World),(w.setCells g o L).heap.size=w.heap.size:=by
     intro L;induction L with
     |nil=>intros;rfl
     |cons u r ih=>intro o w;exact(ih (o+1) _).trans (World.size_setCell _ _ _)
    rw[this];exact BN _
  ·refine ak (some ⟨g,F,none⟩) M rfl (by omega) (run_firstCells_some w.drew i.size n ⟨g,F,none⟩ n M xs ab (fun j u am=>?_));have J:j<n*i.size:=by
    rw[<-ab];exact(List.getElem?_eq_some_iff.1 am).1
   have aH:(⟨g,F,none⟩:Addr).add j=⟨g,F+j,none⟩:=(by unfold Addr.add;split<;>simp_all);rw[aH];exact(cell_of_row w g (F+j) ag e O I).trans ((al j J).trans am)
theorem AV{I:Array Oper}{rest:List Oper}{a:Act}{w:World}{Q:Exit->Act->World->Prop}{d:Option Tmp}{t T z:TypeId}{J:String}{K:Array Edge}{s x:Operand}
  (e:TypeId) (F:Value) (size bytes:Nat) (L:P.underlying T=some (.slice e)) (M:(P.info? e).map (fun i=>(i.zero,i.size,i.bytes))=some (some F,size,bytes))
  (N:F.cells.size=size) (v:Value) (n:Nat) (xs:List Value) (k:Nat) (y:Value) (m:Nat) (G:List Value) (hs:a.eval s=v) (hx:a.eval x=y)
  (O:Own w e size v n xs k) (hk:k<=n*size) (W:Src P size z y m G w) (X:n+m<=maxLen) (aa:(n+m)*bytes<=140737488355328)
  (ab:∀h w',Own w' e size h (n+m) (xs++G) k->Az (fun b=>v.ownBlock=some b) w w'->(∀b,h.ownBlock=some b->v.ownBlock=some b\/w.heap.size<=b)->(m=0->h=v)->wpList P I Q rest (a.put d h) w'):
  wpList P I Q (⟨d,.call { callee:=.builtin .append,args:=#[s,x],argTypes:=#[T,z] },t,J,K,none⟩::rest) a w:=by
 obtain⟨i,ac,ad,ae,af⟩:=info_parts M;obtain⟨h,w',ag,ah,ai,aj,ak⟩:=I8 (P:=P) w T z t e i F size bytes L ac ad ae af N v n xs k O hk y m G W X aa;refine wpList_plain rfl fun am al=>?_
 unfold Oper.wp execOp;simp only[resolve,invoke,builtin,Sem.run_bind,Sem.run_pure,Result.andThen_ok,List.map_toArray,List.map_cons,List.map_nil,hs,hx,ag];exact al _ _ (ab h w' ah ai aj ak)
end
def Kw(l:List UInt8):List Value:=l.map fun b=>Value.int .u8 b.toNat
theorem Lp(l:List UInt8):(Kw l).length=l.length:=by simp[Kw]
theorem Own.str{P:Program}{w:World}{v:Value}{n:Nat}{l:List UInt8}{k:Nat}{e src h:TypeId}(F:Own w e 1 v n (Kw l) k)(hs:P.underlying src=some (.slice e))(G:P.underlying e=some (.int .u8))(I:P.underlying h=some .string):
  (convert src h v).run P w=.ok (.string ⟨l.toArray⟩) w:=by
 have z:=F.1;rw[Lp,Nat.mul_one]at z;rcases F.2 with⟨rfl,rfl⟩|⟨g,J,K,L,M,rfl,N,_,_,_,_,O⟩
 ·have:l=[]:=List.eq_nil_of_length_eq_zero z;subst this;rw[run_convert_bytes_string w src h e _ _ _ hs G I];rfl
 ·subst z;refine Iy w hs G I ⟨g,J,none⟩ l K fun i W=>?_
  rw[Addr.add_lit,cell_of_row w g (J+i) L e M N,O i (by omega)];simp[Kw,W]
end
open Go.RowKit Proofs.Tryz
theorem Aq{P:Program}{I:Array Oper}{o:Oper}{a:Act}{w:World}{J:Act->World->Prop}{Q:Exit->Act->World->Prop}{E:Prop}(K:o.guard=none)(s x:Operand)(T z:TypeId)
  (L:o.op=.call { callee:=.builtin .append,args:=#[s,x],argTypes:=#[T,z] })
  (e:TypeId) (F:Value) (size bytes:Nat) (M:P.underlying T=some (.slice e)) (N:(P.info? e).map (fun i=>(i.zero,i.size,i.bytes))=some (some F,size,bytes))
  (O:F.cells.size=size) (v:Value) (n:Nat) (xs:List Value) (k:Nat) (y:Value) (m:Nat) (G:List Value) (hs:a.eval s=v) (hx:a.eval x=y)
  (W:Own w e size v n xs k) (hk:k<=n*size) (X:Src P size z y m G w) (aa:n+m<=maxLen) (ab:(n+m)*bytes<=140737488355328)
  (ac:∀h w',Own w' e size h (n+m) (xs++G) k->Az (fun b=>v.ownBlock=some b) w w'->(∀b,h.ownBlock=some b->v.ownBlock=some b\/w.heap.size<=b)->(m=0->h=v)->J (a.put o.dst h) w'):
  if Region.wanted o (yielded I a.tmps)=true then Oper.wp P o a w J Q else E:=by
 have ad:Region.wanted o (yielded I a.tmps)=true:=(by simp[Region.wanted,K]);rw[Ai ad];obtain⟨i,ae,af,ag,ah⟩:=info_parts N;obtain⟨h,w',ai,aj,ak,al,am⟩:=I8 (P:=P) w T z o.type e i F size bytes M ae af ag ah O v n xs k W hk y m G X aa ab;unfold Oper.wp execOp;simp only[L,resolve,invoke,builtin,Sem.run_bind,Sem.run_pure,Result.andThen_ok,List.map_toArray,List.map_cons,List.map_nil,hs,hx,ai];exact ac h w' aj ak al am
end Go.Proofs.YtdhfhphbkfgamaaGreat
