/- PrintTells: a part of its proof. -/
import Derived.Test.YtdhfhphbkfgamaaGreatEn
import Derived.Test.YtdhfhphbkfgamaaGreatEp
import Derived.Test.YtdhfhphbkfgamaaGreatPu
set_option maxRecDepth 100000
namespace Go.Proofs.YtdhfhphbkfgamaaGreat
open Go.RowKit Lx
def Kq:Int→List AX→List V→PR Int:=fun x ts ns=>(CW ts ns).bind fun l ts ns=> .ok x ts (Dd ns x l)
theorem Oe (h:EO) (d:Nat) (ts:List AX) (ns:List V):Ez h d ts ns=(Bw h d ts ns).bind Kq:=rfl
theorem Lm (ts:List AX) (ns:List V):CW ts ns=(CW ts []).mv ns id:=by
 have h:=Lv (pre:=ns) ts [];simpa [Ek]using h
theorem Rk {x a k:Int} {h:List AX} {ns:List V} (z:CW h []=.bad a k):Kq x h ns=.bad a k:=by
 unfold Kq;rw[Lm,z];rfl
theorem UI {x:Int} {h z:List AX} {ns G:List V} {l:List Rd} (I:Good h) (F:CW h []=.ok l z G):Kq x h ns=.ok x z (Dd ns x l):=by
 unfold Kq;rw[Lm,F,(Dg I F).2.1];show PR.ok _ _ _=PR.ok _ _ _;simp[Ek]
theorem OY (h:List V) (n:V) (l:List Rd):Dd (h++[n]) (h.length:Int) l=h++[{ n with AK:=l }]:=by
 unfold Dd;rw[Int.toNat_natCast];apply List.ext_getElem?;intro i;rw[List.getElem?_modify];rcases Nat.lt_trichotomy i h.length with z|z|z
 ·rw[List.getElem?_append_left z,List.getElem?_append_left z];have:h.length≠i:=(by omega);simp[this]
 ·subst z;simp
 ·rw[List.getElem?_eq_none (by simp;omega),List.getElem?_eq_none (by simp;omega)];rfl
def Lq (n:V) (ps:List (List V)):List AX→PR Int:=fun h=>(An { n with kids:=(AP ps).2 } h (AP ps).1).bind Kq
theorem Vp {n:V} {ps:List (List V)} {h:List AX} {a k:Int} (z:CW h []=.bad a k):Lq n ps h=.bad a k:=Rk z
theorem XN {n:V} {ps:List (List V)} {h z:List AX} {F:List V} {l:List Rd} (hk:n.kids=[]) (G:Good h) (I:CW h []=.ok l z F):Lq n ps h=.ok (AP ps).1.length z (Bc ps { n with AK:=l }):=by
 show Kq _ _ _=_;rw[UI G I,OY];unfold Bc;simp only[hk,List.nil_append]
section
variable {α β:Type} {R:PR α} {d n tot:Nat}
theorem Cg.Qi {C G:List AX→PR α} {st:DS} (z:Cg R d n tot C st) (I: ∀h F,st=.ok h F→C h=G h):Cg R d n tot G st:=by
 cases st with
 |ok h F=>exact⟨z.1,z.2.1.trans (I h F rfl),z.2.2⟩
 |er a k=>exact z
theorem Cg.map {C:List AX→PR α} {st:DS} (h:Cg R d n tot C st) (g:α→List AX→List V→PR β):Cg (R.bind g) d n tot (fun z=>(C z).bind g) st:=by
 cases st with
 |ok z F=>exact⟨h.1,by rw[h.2.1],h.2.2⟩
 |er a k=>exact(show R.bind g=.bad a k by rw[show R=.bad a k from h];rfl)
end
theorem EG {s:List UInt8} {st:DS} {I:List AX} {d:Nat} (h:CG s st=.ok I d): ∃z,st=.ok z d:=by
 cases st with
 |er a k=>cases h
 |ok z F=>
  change(if BR z s=true then DS.ok z.tail F else Ev (.ok z F))=_ at h
  split at h
  ·injection h with J G;exact⟨z,by rw[G]⟩
  ·cases z with
   |nil=>change DS.ok [] F=_ at h;injection h with J G;exact⟨[],by rw[G]⟩
   |cons t r=>cases h
theorem OQ {ms:List V} (h:ms≠[]):(AP [ms]).2=[(((AP []).1.length+ms.length:Nat):Int)-1]:=by
 rw[show([ms]:List (List V))=[]++[ms]from rfl,Fo];unfold CJ;rw[U h];rfl
structure Ni (w W:World) (rb:Nat) (T:List AX) (st:DS) (B:Nat) (n:V) (a b p v:Value) (ps:List (List V)):Prop where
 st:BS W rb T st
 box:Y W B 32 #[.int .i64 n.kind,.string ⟨n.name.toArray⟩,.bool n.A5,a,b,.slice none 0 0,p,.slice none 0 0]
 hB:w.heap.size≤B
 nd:Bi (low w) W a b (.slice none 0 0) p (.slice none 0 0) n
 parts: ∃w1:World,B<w1.heap.size∧DE w1 W v ps
 kb: ∀ms∈ps,KB ms
 gr:w.grownBy W (some rb)
 Ex:rb<w.heap.size
 WE:BO ps≤10000∧ps.length≤600
section
variable {w W W':World} {rb B d:Nat} {T:List AX} {st st':DS} {n:V} {a b p v:Value} {ps:List (List V)}
theorem Ni.step (h:Ni w W rb T st B n a b p v ps) (z:W.grownBy W' (some rb)) (F:BS W' rb T st'):Ni w W' rb T st' B n a b p v ps:=by
 obtain⟨w1,G,I⟩:=h.parts;exact⟨F,Y.grown h.box z (fun e=>by injection e with e;have:=h.hB;have:=h.Ex;omega),h.hB,h.nd.Mb z h.st.AN,⟨w1,G,I.Mb z h.st.AN⟩,h.kb,AJ h.gr z,h.Ex,h.WE⟩
theorem Ni.form (h:Ni w W rb T st B n a b p v ps): ∃x y,v=.slice x ps.length y:=by
 obtain⟨w1,_,F,z,_⟩:=h.parts;obtain⟨x,y,e,_,_⟩:=z.form;exact⟨x,y,e⟩
theorem Ni.Xk (h:Ni w W rb T st B n a b p v ps) {u:Value} {l:List Rd} (J:I4 W u l) (K: ∀k,u.ownBlock=some k→w.heap.size≤k):
  BS (W.setCell ⟨B,5,none⟩ u) rb T st∧Y (W.setCell ⟨B,5,none⟩ u) B 32 #[.int .i64 n.kind,.string ⟨n.name.toArray⟩,.bool n.A5,a,b,u,p,.slice none 0 0]∧
  Bi (low w) (W.setCell ⟨B,5,none⟩ u) a b u p (.slice none 0 0) { n with AK:=l } ∧GA (low w) (W.setCell ⟨B,5,none⟩ u) v ps∧w.grownBy (W.setCell ⟨B,5,none⟩ u) (some rb):=by
 have G:=h.box.AN;have z: ∀ {e:TypeId} {s m k:Nat} {x:Value} {xs:List Value},Own W e s x m xs k→e≠32→Own (W.setCell ⟨B,5,none⟩ u) e s x m xs k:=fun I L=>I.Be (p:=⟨B,5,none⟩) (fun e=>L ((Own.AN I e).uniq G)) _
 obtain⟨w1,af,M,N,O⟩:=h.parts;obtain⟨X,aa,pa,ab⟩:=h.nd.AS;have ac: ∀k,low w k→k<w1.heap.size:=fun k hk=>by have:=h.hB;unfold low at hk;omega
 refine⟨h.st.fresh (DP h.Ex h.hB) 5 u,Y.AV h.box 5 u,⟨z h.nd.AY (by decide),z h.nd.words (by decide),z J (by decide),⟨X,z aa (by decide),pa,fun i F=>by obtain⟨x,hx,hs,ad⟩:=ab i F;exact⟨x,hx,z hs (by decide),ad⟩⟩,z h.nd.kids (by decide),h.nd.ha,h.nd.hb,fun k hk e=>Ai e (Nat.not_lt.2 (K k hk)),h.nd.hk⟩,⟨M,z N (by decide),fun i F=>?_⟩,AM h.gr (p:=⟨B,5,none⟩) (.inr h.hB) _⟩;obtain⟨x,hx,hs,ae⟩:=O i F;exact⟨x,hx,(hs.mono ac).R9 (q:=⟨B,5,none⟩) (fun e=>by have:=ae B e;omega) G u⟩
end
def X9 (h:PR V) (d:Nat) (n:V):DS→Prop
 | .ok ts z=>z=d∧ ∃ns,h=.ok n ts ns
 | .er a k=>h=.bad a k
theorem Va {w w':World} {rb d:Nat} {T:List AX} {h:PR V} {e:Ending} (J:NS (WI w) (Xf w) rb T d w h e w'): ∃v n st,e=.returned v∧WI w w' n v∧BS w' rb T st∧w.grownBy w' (some rb)∧X9 h d n st:=by
 cases h with
 |ok x ts ns=>
  obtain⟨v,z,F,G,I⟩:=J;exact⟨v,x,_,z,F,G,I,rfl,ns,rfl⟩
 |bad a k=>
  obtain⟨v,z,⟨l,F⟩,G,I⟩:=J;exact⟨v,l,_,z,F,G,I,rfl⟩
section
variable {w w1 W W':World} {rb B d d1:Nat} {T ts:List AX} {st st':DS} {n:V} {a b p v vt:Value} {ps:List (List V)} {c0 c1 c2:Value}
theorem Bi.Q6 {av:Nat→Prop} {a b r p k:Value} (h:Bi av W a b r p k n) (z:Az (fun k=>k=B) W W') (F:Bk W B 32):Bi av W' a b r p k n:=
 h.fr (base:=fun _=>True) (Az.mono z fun k _ e=>⟨trivial,.inr (by subst e;exact F)⟩)
theorem DE.Q6 (J:DE w1 W v ps) (h:Az (fun k=>k=B) W W') (F:Bk W B 32) (ad:B<w1.heap.size):DE w1 W' v ps:=by
 obtain⟨K,G,L⟩:=J;refine⟨K,G.Bl h (fun g z e=>by subst e;exact Ai ((Own.AN G z).uniq F) (by decide)),fun i M=>?_⟩;obtain⟨u,N,⟨O,X,aa⟩,I⟩:=L i M;exact⟨u,N,⟨O,X.Bl h (fun g z e=>by subst e;have:=I _ z;omega),fun j ab=>by obtain⟨x,y,r,q,k,e,ac⟩:=aa j ab;exact⟨x,y,r,q,k,e,ac.Q6 h F⟩⟩,I⟩
theorem BS.MK {f:Int} {q:Nat} (h:Gl W rb T vt q d1 0 f) (z:T.drop q=ts) (hx:d+1=d1) (G:d1≤26):BS (W.setCell ⟨rb,2,none⟩ (.int .i64 ((d1:Int)-1))) rb T (.ok ts d):=by
 have F:=h.set 2 (.inl rfl) ((d1:Int)-1);refine⟨vt,q,f,?_,z,by omega⟩;have e:(d:Int)=(d1:Int)-1:=(by omega);rw[e];exact F
theorem O4 (z:w.grownBy W (some rb)) (h:w.heap.size≤B) (F G I J K L M N:Value):w.grownBy (Cf W B F G I J K L M N) (some rb):=by
 unfold Cf;exact AM (AM (AM (AM (AM (AM (AM (AM z (p:=⟨B,0,none⟩) (.inr h) _) (p:=⟨B,1,none⟩) (.inr h) _) (p:=⟨B,2,none⟩) (.inr h) _) (p:=⟨B,3,none⟩) (.inr h) _) (p:=⟨B,4,none⟩) (.inr h) _) (p:=⟨B,5,none⟩) (.inr h) _) (p:=⟨B,6,none⟩) (.inr h) _) (p:=⟨B,7,none⟩) (.inr h) _
theorem Ni.of (h:Y W B 32 #[.int .i64 n.kind,.string ⟨n.name.toArray⟩,.bool n.A5,a,b,.slice none 0 0,p,.slice none 0 0]) (z:w.heap.size≤B) (F:Bi (low w) W a b (.slice none 0 0) p (.slice none 0 0) n) (G:w.grownBy W (some rb)) (I:rb<w.heap.size) (J:Bk W rb 86) (g:W.grownBy W' (some rb)) (hs:BS W' rb T st) (K:DE W W' v ps) (hk: ∀ms∈ps,KB ms) (L:BO ps≤10000∧ps.length≤600):Ni w W' rb T st B n a b p v ps:=
 ⟨hs,Y.grown h g (fun e=>by injection e with e;omega),z,F.Mb g J,⟨W,Y.lt h,K⟩,hk,AJ G g,I,L⟩
end
theorem RQ {a b:List V} (h:a≠[]) (z:b≠[]):(AP [a,b]).2=[(((AP []).1.length+a.length:Nat):Int)-1,(((AP [a]).1.length+b.length:Nat):Int)-1]:=by
 rw[Lh h z]
end Go.Proofs.YtdhfhphbkfgamaaGreat
