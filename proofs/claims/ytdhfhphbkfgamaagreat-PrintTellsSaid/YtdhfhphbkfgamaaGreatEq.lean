/- A part. -/
import Derived.Test.YtdhfhphbkfgamaaGreatEn
import Derived.Test.YtdhfhphbkfgamaaGreatEp
import Derived.Test.YtdhfhphbkfgamaaGreatPu
set_option maxRecDepth 100000
set_option linter.all false
namespace Go.Proofs.YtdhfhphbkfgamaaGreat
open Go.RowKit Lx Proofs.Tryz
def Kq:Int->List AY->List V->PR Int:=fun x ts ns=>(Cb ts ns).bind fun l ts ns=> .ok x ts (Dq ns x l)
theorem Pc(co:Eg)(d:Nat)(ts:List AY)(ns:List V):FI co d ts ns=(B1 co d ts ns).bind Kq:=rfl
theorem Lw(ts:List AY)(ns:List V):Cb ts ns=(Cb ts []).mv ns id:=by
 have h:=Md (pre:=ns) ts [];simpa [E3]using h
theorem Su{x a k:Int}{h:List AY}{ns:List V}(z:Cb h []=.bad a k):Kq x h ns=.bad a k:=by
 unfold Kq;rw[Lw,z];rfl
theorem VA{x:Int}{h z:List AY}{ns G:List V}{l:List Rd}(I:Good h)(F:Cb h []=.ok l z G):Kq x h ns=.ok x z (Dq ns x l):=by
 unfold Kq;rw[Lw,F,(Dz I F).2.1];show PR.ok _ _ _=PR.ok _ _ _;simp[E3]
theorem Og(h:List V)(n:V)(l:List Rd):Dq (h++[n]) (h.length:Int) l=h++[{ n with AK:=l }]:=by
 unfold Dq;rw[Int.toNat_natCast];apply List.ext_getElem?;intro i;rw[List.getElem?_modify];rcases Nat.lt_trichotomy i h.length with z|z|z
 ·rw[Gx z,Gx z];have:h.length≠i:=(by omega);simp[this]
 ·subst z;simp
 ·rw[List.getElem?_eq_none (by simp;omega),List.getElem?_eq_none (by simp;omega)];rfl
def Lq(n:V)(ps:List (List V)):List AY->PR Int:=fun h=>(Ao { n with kids:=(AQ ps).2 } h (AQ ps).1).bind Kq
theorem Vo{n:V}{ps:List (List V)}{h:List AY}{a k:Int}(z:Cb h []=.bad a k):Lq n ps h=.bad a k:=Su z
theorem XR{n:V}{ps:List (List V)}{h z:List AY}{F:List V}{l:List Rd}(hk:n.kids=[])(G:Good h)(I:Cb h []=.ok l z F):Lq n ps h=.ok (AQ ps).1.length z (Bf ps { n with AK:=l }):=by
 show Kq _ _ _=_;rw[VA G I,Og];unfold Bf;simp only[hk,List.nil_append]
section
variable {α β:Type}{R:PR α}{d n tot:Nat}
theorem Cn.So{C F:List AY->PR α}{st:DS}(z:Cn R d n tot C st)(G:∀h d2,st=.ok h d2->C h=F h):Cn R d n tot F st:=by
 cases st with
 |ok h d2=>exact⟨z.1,z.2.1.trans (G h d2 rfl),z.2.2⟩
 |er a k=>exact z
theorem Cn.map{C:List AY->PR α}{st:DS}(h:Cn R d n tot C st)(g:α->List AY->List V->PR β):Cn (R.bind g) d n tot (fun z=>(C z).bind g) st:=by
 cases st with
 |ok z d2=>exact⟨h.1,by rw[h.2.1],h.2.2⟩
 |er a k=>exact(show R.bind g=.bad a k by rw[show R=.bad a k from h];rfl)
end
theorem EW{s:List UInt8}{st:DS}{G:List AY}{d:Nat}(h:CG s st=.ok G d):∃z,st=.ok z d:=by
 cases st with
 |er a k=>cases h
 |ok z d2=>
  change(if BT z s=true then DS.ok z.tail d2 else FC (.ok z d2))=_ at h
  split at h
  ·injection h with I F;exact⟨z,by rw[F]⟩
  ·cases z with
   |nil=>change DS.ok [] d2=_ at h;injection h with I F;exact⟨[],by rw[F]⟩
   |cons t r=>cases h
theorem O6{ms:List V}(h:ms≠[]):(AQ [ms]).2=[(((AQ []).1.length+ms.length:Nat):Int)-1]:=by
 rw[show([ms]:List (List V))=[]++[ms]from rfl,GH];unfold CH;rw[AP h];rfl
structure OJ(w W:World)(rb:Nat)(T:List AY)(st:DS)(B:Nat)(n:V)(a b p v:Value)(ps:List (List V)):Prop where
 st:BU W rb T st
 box:Y W B 32 #[.int .i64 n.kind,.string ⟨n.name.toArray⟩,.bool n.A7,a,b,.slice none 0 0,p,.slice none 0 0]
 hB:w.heap.size<=B
 nd:Bk (low w) W a b (.slice none 0 0) p (.slice none 0 0) n
 parts:∃w1:World,B<w1.heap.size/\DY w1 W v ps
 kb:∀ms∈ps,KB ms
 gr:w.grownBy W (some rb)
 E8:rb<w.heap.size
 Wr:BP ps<=10000/\ps.length<=600
section
variable {w W W':World}{rb B d:Nat}{T:List AY}{st st':DS}{n:V}{a b p v:Value}{ps:List (List V)}
theorem OJ.step(h:OJ w W rb T st B n a b p v ps)(z:W.grownBy W' (some rb))(F:BU W' rb T st'):OJ w W' rb T st' B n a b p v ps:=by
 obtain⟨w1,G,I⟩:=h.parts;exact⟨F,Y.grown h.box z (fun e=>by injection e with e;have:=h.hB;have:=h.E8;omega),h.hB,h.nd.M6 z h.st.AO,⟨w1,G,I.M6 z h.st.AO⟩,h.kb,AJ h.gr z,h.E8,h.Wr⟩
theorem OJ.form(h:OJ w W rb T st B n a b p v ps):∃x y,v=.slice x ps.length y:=by
 obtain⟨w1,_,F,z,_⟩:=h.parts;obtain⟨x,y,e,_,_⟩:=z.form;exact⟨x,y,e⟩
theorem OJ.YE(h:OJ w W rb T st B n a b p v ps){u:Value}{l:List Rd}(J:Ji W u l)(K:∀k,u.ownBlock=some k->w.heap.size<=k):
  BU (W.setCell ⟨B,5,none⟩ u) rb T st/\Y (W.setCell ⟨B,5,none⟩ u) B 32 #[.int .i64 n.kind,.string ⟨n.name.toArray⟩,.bool n.A7,a,b,u,p,.slice none 0 0]/\
  Bk (low w) (W.setCell ⟨B,5,none⟩ u) a b u p (.slice none 0 0) { n with AK:=l } /\GZ (low w) (W.setCell ⟨B,5,none⟩ u) v ps/\w.grownBy (W.setCell ⟨B,5,none⟩ u) (some rb):=by
 have G:=h.box.AO;have z:∀ {e:TypeId} {s m k:Nat} {x:Value} {xs:List Value},Own W e s x m xs k->e≠32->Own (W.setCell ⟨B,5,none⟩ u) e s x m xs k:=fun I L=>I.Bi (p:=⟨B,5,none⟩) (fun e=>L ((Own.AO I e).uniq G)) _
 obtain⟨w1,af,M,N,O⟩:=h.parts;obtain⟨X,aa,pa,ab⟩:=h.nd.AT;have ac:∀k,low w k->k<w1.heap.size:=fun k hk=>by have:=h.hB;unfold low at hk;omega
 refine⟨h.st.fresh (DZ h.E8 h.hB) 5 u,Y.AW h.box 5 u,⟨z h.nd.AZ (by decide),z h.nd.words (by decide),z J (by decide),⟨X,z aa (by decide),pa,fun i F=>by obtain⟨x,hx,hs,ad⟩:=ab i F;exact⟨x,hx,z hs (by decide),ad⟩⟩,z h.nd.kids (by decide),h.nd.ha,h.nd.hb,fun k hk e=>Aj e (Nat.not_lt.2 (K k hk)),h.nd.hk⟩,⟨M,z N (by decide),fun i F=>?_⟩,AN h.gr (p:=⟨B,5,none⟩) (.inr h.hB) _⟩;obtain⟨x,hx,hs,ae⟩:=O i F;exact⟨x,hx,(hs.mono ac).RJ (q:=⟨B,5,none⟩) (fun e=>by have:=ae B e;omega) G u⟩
end
def Ya(h:PR V)(d:Nat)(n:V):DS->Prop
 | .ok ts d2=>d2=d/\ ∃ns,h=.ok n ts ns
 | .er a k=>h=.bad a k
theorem V4{w w':World}{rb d:Nat}{T:List AY}{h:PR V}{e:Ending}(J:M8 (Ws w) (YD w) rb T d w h e w'):∃v n st,e=.returned v/\Ws w w' n v/\BU w' rb T st/\w.grownBy w' (some rb)/\Ya h d n st:=by
 cases h with
 |ok x ts ns=>
  obtain⟨v,z,F,G,I⟩:=J;exact⟨v,x,_,z,F,G,I,rfl,ns,rfl⟩
 |bad a k=>
  obtain⟨v,z,⟨l,F⟩,G,I⟩:=J;exact⟨v,l,_,z,F,G,I,rfl⟩
section
variable {w w1 W W':World}{rb B d d1:Nat}{T ts:List AY}{st st':DS}{n:V}{a b p v vt:Value}{ps:List (List V)}{c0 c1 c2:Value}
theorem Bk.Rr{av:Nat->Prop}{a b r p k:Value}(h:Bk av W a b r p k n)(z:Az (fun k=>k=B) W W')(F:Bn W B 32):Bk av W' a b r p k n:=
 h.fr (base:=fun _=>True) (Az.mono z fun k _ e=>⟨trivial,.inr (by subst e;exact F)⟩)
theorem DY.Rr(J:DY w1 W v ps)(h:Az (fun k=>k=B) W W')(F:Bn W B 32)(ad:B<w1.heap.size):DY w1 W' v ps:=by
 obtain⟨K,G,L⟩:=J;refine⟨K,G.Bo h (fun g z e=>by subst e;exact Aj ((Own.AO G z).uniq F) (by decide)),fun i M=>?_⟩;obtain⟨u,N,⟨O,X,aa⟩,I⟩:=L i M;exact⟨u,N,⟨O,X.Bo h (fun g z e=>by subst e;have:=I _ z;omega),fun j ab=>by obtain⟨x,y,r,q,k,e,ac⟩:=aa j ab;exact⟨x,y,r,q,k,e,ac.Rr h F⟩⟩,I⟩
theorem BU.Mk{f:Int}{q:Nat}(h:IA W rb T vt q d1 0 f)(z:T.drop q=ts)(hx:d+1=d1)(G:d1<=26):BU (W.setCell ⟨rb,2,none⟩ (.int .i64 ((d1:Int)-1))) rb T (.ok ts d):=by
 have F:=h.set 2 (.inl rfl) ((d1:Int)-1);refine⟨vt,q,f,?_,z,by omega⟩;have e:(d:Int)=(d1:Int)-1:=(by omega);rw[e];exact F
theorem Po(z:w.grownBy W (some rb))(h:w.heap.size<=B)(F G I J K L M N:Value):w.grownBy (Cl W B F G I J K L M N) (some rb):=by
 unfold Cl;exact AN (AN (AN (AN (AN (AN (AN (AN z (p:=⟨B,0,none⟩) (.inr h) _) (p:=⟨B,1,none⟩) (.inr h) _) (p:=⟨B,2,none⟩) (.inr h) _) (p:=⟨B,3,none⟩) (.inr h) _) (p:=⟨B,4,none⟩) (.inr h) _) (p:=⟨B,5,none⟩) (.inr h) _) (p:=⟨B,6,none⟩) (.inr h) _) (p:=⟨B,7,none⟩) (.inr h) _
theorem OJ.of(h:Y W B 32 #[.int .i64 n.kind,.string ⟨n.name.toArray⟩,.bool n.A7,a,b,.slice none 0 0,p,.slice none 0 0])(z:w.heap.size<=B)(F:Bk (low w) W a b (.slice none 0 0) p (.slice none 0 0) n)(G:w.grownBy W (some rb))(I:rb<w.heap.size)(J:Bn W rb 86)(g:W.grownBy W' (some rb))(hs:BU W' rb T st)(K:DY W W' v ps)(hk:∀ms∈ps,KB ms)(L:BP ps<=10000/\ps.length<=600):OJ w W' rb T st B n a b p v ps:=
 ⟨hs,Y.grown h g (fun e=>by injection e with e;omega),z,F.M6 g J,⟨W,Y.lt h,K⟩,hk,AJ G g,I,L⟩
end
theorem SX{a b:List V}(h:a≠[])(z:b≠[]):(AQ [a,b]).2=[(((AQ []).1.length+a.length:Nat):Int)-1,(((AQ [a]).1.length+b.length:Nat):Int)-1]:=by
 rw[MV h z]
end Go.Proofs.YtdhfhphbkfgamaaGreat
