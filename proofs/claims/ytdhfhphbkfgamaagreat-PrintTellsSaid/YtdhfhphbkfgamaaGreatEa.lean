/- PrintTells: a part of its proof. -/
import Derived.Test.YtdhfhphbkfgamaaGreatQa
set_option maxRecDepth 100000
namespace Go.Proofs.YtdhfhphbkfgamaaGreat
section
open Lx
def EW (b:Nat) (k:Int):Int:=if k<0 then-1 else k+b
def V.sh (b:Nat) (n:V):V:= { n with kids:=n.kids.map (EW b) }
def Ek (pre ns:List V):List V:=pre++ns.map (V.sh pre.length)
def PR.mv {α β:Type} (pre:List V) (g:α→β):PR α→PR β
 | .ok x ts ns=> .ok (g x) ts (Ek pre ns)
 | .bad a e=> .bad a e
theorem FW (pre ns:List V):(Ek pre ns).length=pre.length+ns.length:=by simp[Ek]
theorem O9 (b n:Nat):EW b (n:Int)=((b+n:Nat):Int):=by unfold EW;rw[U (by omega)];omega
theorem TD (b:Nat):EW b (-1)= -1:=by unfold EW;rw[Ah (by omega)]
theorem IN (b:Nat) (x:Int) (h:0≤x):EW b x=x+b:=by unfold EW;rw[U (by omega)]
theorem It (pre ns:List V) (n m:V) (h:m=n.sh pre.length):Ek pre ns++[m]=Ek pre (ns++[n]):=by subst h;simp[Ek]
theorem J0 (pre ns:List V):((Ek pre ns).length:Int)=EW pre.length ns.length:=by rw[FW,O9]
def Kg (b:Nat) (k:List Int×Bool):List Int×Bool:=(k.1.map (EW b),k.2)
section
variable {α β γ δ:Type} {pre:List V}
theorem A7 {p:PR α} {h:PR β} {g:α→β} {f:α→List AX→List V→PR γ} {z:β→List AX→List V→PR δ} {F:γ→δ} (G:h=p.mv pre g) (I: ∀x ts ns,p=.ok x ts ns→z (g x) ts (Ek pre ns)=(f x ts ns).mv pre F):h.bind z=(p.bind f).mv pre F:=by
 subst G;cases p with
 |ok x ts ns=>exact I x ts ns rfl
 |bad a e=>rfl
theorem CK {c:Bool} {p q:PR α} {z F:PR β} {h:α→β} (G:c=true→z=p.mv pre h) (I:c=false→F=q.mv pre h):(if c=true then z else F)=(if c=true then p else q).mv pre h:=by
 cases c with
 |true=>exact G rfl
 |false=>exact I rfl
theorem EB {c:Prop} [Decidable c] {p q:PR α} {F G:PR β} {z:α→β} (I:c→F=p.mv pre z) (J: ¬c→G=q.mv pre z):(if c then F else G)=(if c then p else q).mv pre z:=by
 by_cases h:c
 ·rw[Ah h,Ah h];exact I h
 ·rw[U h,U h];exact J h
theorem E7 (ts:List AX) (g:α→β):(Ay ts:PR β)=(Ay ts:PR α).mv pre g:=by unfold Ay;cases ts<;>rfl
theorem EY {n m:V} (ts:List AX) (ns:List V) (h:m=n.sh pre.length):An m ts (Ek pre ns)=(An n ts ns).mv pre (EW pre.length):=by
 unfold An;rw[It pre ns n m h,J0];rfl
theorem DF (s:List UInt8) (ts:List AX) (ns:List V):AW s ts (Ek pre ns)=(AW s ts ns).mv pre id:=by
 unfold AW;exact CK (fun _=>rfl) (fun _=>E7 _ _)
def K0 (r:C4):Prop:= ∀pre ts ns,r ts (Ek pre ns)=(r ts ns).mv pre (EW pre.length)
def GX (r:EO):Prop:= ∀d,K0 (r d)
theorem M5 {h:C4} (I:K0 h): ∀(f:Nat) (kids:List Int) (z:Bool) (ts:List AX) (ns:List V),CY h f (kids.map (EW pre.length)) z ts (Ek pre ns)=(CY h f kids z ts ns).mv pre (Kg pre.length):=by
 intro f;induction f with
 |zero=>intro _ _ _ _;rfl
 |succ f ih=>
  intro kids z ts ns;rw[CY,CY];refine A7 (I _ _ _) fun x J F _=>?_
  have G: ∀y:Int,kids.map (EW pre.length)++[EW pre.length y]=(kids++[y]).map (EW pre.length):=fun y=>by simp
  have K:Ek pre F++[({ kind:=7,kids:=[EW pre.length x] } :V)]=Ek pre (F++[{ kind:=7,kids:=[x] }]):=It _ _ _ _ rfl;simp only[];rw[K,J0];cases BR J Cw with
  |true=>
   simp only[if_true,Bool.true_or];rw[G];exact CK (fun _=>ih _ _ _ _) (fun _=>rfl)
  |false=>
   simp only[Bool.false_eq_true,if_false,Bool.false_or];rw[G];exact CK (fun _=>CK (fun _=>ih _ _ _ _) (fun _=>rfl)) (fun _=>rfl)
theorem VP {h:C4} (z:K0 h):K0 (GM h):=by
 intro pre ts ns;unfold GM;refine A7 (M5 z _ [] _ _ _) fun k F G _=>?_
 obtain⟨l,b⟩:=k;unfold Kg;match l with
 |[]=>exact EY _ _ rfl
 |[x]=>exact CK (fun _=>EY _ _ rfl) (fun _=>rfl)
 |x::y::l=>exact EY _ _ rfl
theorem M0 {h:C4} (G:K0 h): ∀(f:Nat) (x:Int) (ts:List AX) (ns:List V),CR h f (EW pre.length x) ts (Ek pre ns)=(CR h f x ts ns).mv pre (EW pre.length):=by
 intro f;induction f with
 |zero=>intro _ _ _;rfl
 |succ f ih=>
  intro x ts ns;rw[CR,CR];refine CK (fun _=>?_) (fun _=>CK (fun _=>?_) (fun _=>rfl));all_goals
   refine A7 (G _ _ _) fun y I F _=>?_
   have e: ∀z:Int,Ek pre F++[({ kind:=z,kids:=[EW pre.length x,EW pre.length y] } :V)]=Ek pre (F++[{ kind:=z,kids:=[x,y] }]):=fun z=>It _ _ _ _ rfl
   rw[J0,e];exact ih _ _ _
theorem Rb {h:C4} (z:K0 h):K0 (Fz h):=fun pre ts ns=>A7 (z _ _ _) fun x F G _=>M0 z _ _ _ _
theorem Mr {z:C4} (F:K0 z): ∀(f:Nat) (h:List Int) (ts:List AX) (ns:List V),DD z f (h.map (EW pre.length)) ts (Ek pre ns)=(DD z f h ts ns).mv pre (List.map (EW pre.length)):=by
 intro f;induction f with
 |zero=>intro _ _ _;rfl
 |succ f ih=>
  intro h ts ns;rw[DD,DD];refine CK (fun _=>A7 (F _ _ _) fun y G I _=>?_) (fun _=>rfl);rw[show h.map (EW pre.length)++[EW pre.length y]=(h++[y]).map (EW pre.length) by simp];exact ih _ _ _
theorem St {I:C4} : ∀(f:Nat) (z:List Int) (ts:List AX) (ns:List V) (k:List Int) (F:List AX) (G:List V),z≠[]→DD I f z ts ns=.ok k F G→k≠[]:=by
 intro f;induction f with
 |zero=>intro _ _ _ _ _ _ _ h;cases h
 |succ f ih=>
  intro z ts ns k F G hk h;rw[DD]at h;split at h
  ·obtain⟨y,K,L,_,J⟩:=bind_eq h;exact ih _ _ _ _ _ _ (by simp) J
  ·injection h with h _ _;exact h▸hk
theorem UU (b:Bool) (x y:Int) (ts:List AX) (ns:List V) (h:y=EW pre.length x):FL b y ts (Ek pre ns)=(FL b x ts ns).mv pre (EW pre.length):=by
 subst h;unfold FL;exact CK (fun _=>EY _ _ rfl) (fun _=>rfl)
theorem N3 {h:C4} (z:K0 h):K0 (FB h):=by
 intro pre ts ns;unfold FB;refine A7 (z _ _ _) fun x I J _=>?_
 refine A7 (Mr z _ [x] _ _) fun k K F hk=>?_
 have G:=St _ _ _ _ _ _ _ (by simp) hk;simp only[List.length_map];refine EB (fun _=>?_) (fun _=>?_)
 ·have e:Ek pre F++[({ kind:=3,kids:=k.map (EW pre.length) } :V)]=Ek pre (F++[{ kind:=3,kids:=k }]):=It _ _ _ _ rfl;rw[e];exact UU _ _ _ _ _ (J0 _ _)
 ·refine UU _ _ _ _ _ ?_;cases k with
  |nil=>exact Ai rfl G
  |cons a k=>rfl
theorem MD: ∀(f:Nat) (h:List Rd) (ts:List AX) (ns:List V),Bz f h ts (Ek pre ns)=(Bz f h ts ns).mv pre id:=by
 intro f;induction f with
 |zero=>intro _ _ _;rfl
 |succ f ih=>
  intro h ts ns;cases ts with
  |nil=>rfl
  |cons t r=>
   rw[Bz,Bz];exact CK (fun _=>CK (fun _=>ih _ _ _) (fun _=>E7 _ _)) (fun _=>CK (fun _=>CK (fun _=>ih _ _ _) (fun _=>E7 _ _)) (fun _=>rfl))
theorem Lv (ts:List AX) (ns:List V):CW ts (Ek pre ns)=(CW ts ns).mv pre id:=MD _ _ _ _
theorem Nr: ∀(f:Nat) (n m:V) (ts:List AX) (ns:List V),m=n.sh pre.length→Ci f m ts (Ek pre ns)=(Ci f n ts ns).mv pre (V.sh pre.length):=by
 intro f;induction f with
 |zero=>intro _ _ _ _ _;rfl
 |succ f ih=>
  intro n m ts ns h;subst h;rw[Ci,Ci];refine A7 (Lv _ _) fun l z F _=>?_
  cases z with
  |nil=>rfl
  |cons t r=>
   simp only[id];exact EB (fun _=>rfl) (fun _=>EB (fun _=>ih _ _ _ _ rfl) (fun _=>CK (fun _=>ih _ _ _ _ rfl) (fun _=>CK (fun _=>rfl) (fun _=>ih _ _ _ _ rfl))))
theorem Wy:K0 IT:=by
 intro pre ts ns;unfold IT;refine A7 (Nr _ _ _ _ _ rfl) fun n h z _=>?_
 exact EB (fun _=>E7 _ _) (fun _=>EY _ _ rfl)
def XL (r:C4):Prop:= ∀ts ns x h z,r ts ns=.ok x h z→0≤x
theorem Mz {r:EO} (h:GX r):GX (Bw r):=by
 intro d pre ts ns;unfold Bw;exact EB (fun _=>rfl) (fun _=>h _ _ _ _)
theorem TJ {ns:List V} {x:Int} (l:List Rd) (G:0≤x):Dd (Ek pre ns) (EW pre.length x) l=Ek pre (Dd ns x l):=by
 obtain⟨i,rfl⟩: ∃i:Nat,x=i:=⟨x.toNat,by omega⟩;rw[O9];unfold Dd Ek;rw[Int.toNat_natCast,Int.toNat_natCast];apply List.ext_getElem?;intro j;rw[List.getElem?_modify];rcases Nat.lt_or_ge j pre.length with h|h
 ·have F: ¬(pre.length+i=j):=(by omega);rw[List.getElem?_append_left h,List.getElem?_append_left h];simp[F]
 ·obtain⟨m,rfl⟩: ∃m,j=pre.length+m:=⟨j-pre.length,by omega⟩;rw[List.getElem?_append_right (by omega),List.getElem?_append_right (by omega),Nat.add_sub_cancel_left,List.getElem?_map,List.getElem?_map,List.getElem?_modify];cases ns[m]? with
  |none=>rfl
  |some n=>
   by_cases z:i=m
   ·simp[z,V.sh]
   ·simp[z]
theorem Ua {core:EO} (h:GX core) (z: ∀d,XL (core d)):GX (Ez core):=by
 intro d pre ts ns;unfold Ez;refine A7 (Mz h d pre ts ns) fun x G I hx=>?_
 have F:0≤x:=by
  unfold Bw at hx;split at hx
  ·cases hx
  ·exact z _ _ _ _ _ _ hx
 refine A7 (Lv _ _) fun l J K _=>?_
 show PR.ok _ _ _=PR.ok _ _ _;rw[id,TJ l F]
theorem Ws {h:EO} (z:GX h):GX (IW h):=by
 intro d pre ts ns;unfold IW;refine A7 (DF _ _ _) fun _ F G _=>A7 (DF _ _ _) fun _ I J _=>?_
 exact CK (fun _=>A7 (z _ _ _ _) fun x K L _=>EY _ _ rfl) (fun _=>E7 _ _)
theorem UJ {h:EO} (z:GX h):GX (FE h):=by
 intro d pre ts ns;unfold FE;exact CK (fun _=>z _ _ _ _) (fun _=>CK (fun _=>Mz (Ws z) _ _ _ _) (fun _=>Wy _ _ _))
theorem Qp {h:EO} (z:GX h):GX (SZ h):=fun d=>VP (Rb (N3 (UJ z d)))
theorem UT {Ak:C4} (h:K0 Ak): ∀f,K0 (E5 Ak f):=by
 intro f;induction f with
 |zero=>intro _ _ _;rfl
 |succ f ih=>
  intro pre ts ns;rw[E5,E5];refine A7 (h _ _ _) fun a J K _=>A7 (DF _ _ _) fun _ L M _=>A7 (h _ _ _) fun b N O _=>?_
  refine CK (fun _=>?_) (fun _=>CK (fun _=>?_) (fun _=>?_))
  ·exact A7 (ih _ _ _) fun c z F _=>EY _ _ rfl
  ·exact A7 (h _ _ _) fun c z F _=>A7 (DF _ _ _) fun _ G I _=>EY _ _ rfl
  ·exact A7 (DF _ _ _) fun _ G I _=>EY _ _ rfl
theorem Vq (ts:List AX) (ns:List V):Ej ts (Ek pre ns)=(Ej ts ns).mv pre id:=by
 cases ts with
 |nil=>rfl
 |cons t r=>
  unfold Ej;simp only[];refine CK (fun _=>CK (fun _=>CK (fun _=>A7 (DF _ _ _) fun _ h z _=>rfl) (fun _=>E7 _ _)) (fun _=>A7 (DF _ _ _) fun _ h z _=>rfl)) (fun _=>E7 _ _)
theorem RI (ts:List AX) (ns:List V):EI ts (Ek pre ns)=(EI ts ns).mv pre id:=by
 cases ts with
 |nil=>rfl
 |cons t r=>exact EB (fun _=>rfl) (fun _=>E7 _ _)
theorem Uz: ∀(f:Nat) (h:List (List UInt8)) (ts:List AX) (ns:List V),C5 f h ts (Ek pre ns)=(C5 f h ts ns).mv pre id:=by
 intro f;induction f with
 |zero=>intro _ _ _;rfl
 |succ f ih=>
  intro h ts ns;rw[C5,C5];exact CK (fun _=>A7 (RI _ _) fun s z F _=>ih _ _ _) (fun _=>rfl)
theorem NG {Ak:C4} (F:K0 Ak): ∀(f:Nat) (n m:V) (ts:List AX) (ns:List V),m=n.sh pre.length→Ce Ak f m ts (Ek pre ns)=(Ce Ak f n ts ns).mv pre (V.sh pre.length):=by
 intro f;induction f with
 |zero=>intro _ _ _ _ _;rfl
 |succ f ih=>
  intro n m ts ns G;subst G;rw[Ce,Ce];refine CK (fun _=>rfl) (fun _=>A7 (RI _ _) fun s I J _=>A7 (Uz _ _ _ _) fun p K L _=>A7 (DF _ _ _) fun _ h z _=>?_);refine A7 (p:=if BX (AG h)=true then Ak (AG h) z else .ok (-1) (AG h) z) (g:=EW pre.length) (CK (fun _=>F _ _ _) (fun _=>?_)) fun b M N _=>?_
  ·show PR.ok _ _ _=PR.ok _ _ _;rw[TD]
  ·simp only[id];have e:({ n.sh pre.length with AS:=(n.sh pre.length).AS++[p],kids:=(n.sh pre.length).kids++[EW pre.length b] } :V)=V.sh pre.length { n with AS:=n.AS++[p],kids:=n.kids++[b] } :=by
    simp[V.sh]
   refine CK (fun _=>ih _ _ _ _ e) (fun _=>?_);show PR.ok _ _ _=PR.ok _ _ _;rw[e]
theorem Sr {Ak:C4} (h:K0 Ak) (ts:List AX) (ns:List V):D9 Ak ts (Ek pre ns)=(D9 Ak ts ns).mv pre (V.sh pre.length):=by
 unfold D9;refine A7 (RI _ _) fun s z F _=>A7 (DF _ _ _) fun _ G I _=>A7 (NG h _ _ _ _ _ rfl) fun n J K _=>?_
 exact A7 (DF _ _ _) fun _ L M _=>rfl
theorem TH {Ak:C4} (h:K0 Ak) (s:List UInt8):K0 (coreS Ak s):=by
 intro pre ts ns;unfold coreS;refine EB (fun _=>?_) (fun _=>EB (fun _=>?_) (fun _=>EB (fun _=>UT h _ _ _ _) (fun _=>EB (fun _=>?_) (fun _=>EB (fun _=>?_) (fun _=>?_)))))
 ·exact A7 (h _ _ _) fun x z F _=>A7 (DF _ _ _) fun _ G I _=>EY _ _ rfl
 ·exact A7 (h _ _ _) fun x z F _=>A7 (DF _ _ _) fun _ G I _=>EY _ _ rfl
 ·exact A7 (Vq _ _) fun n z F _=>A7 (h _ _ _) fun x G I _=>A7 (DF _ _ _) fun _ J K _=>EY _ _ rfl
 ·exact A7 (Sr h _ _) fun n z F _=>EY _ _ rfl
 ·exact A7 (h _ _ _) fun x z F _=>A7 (DF _ _ _) fun _ G I _=>A7 (h _ _ _) fun y J K _=>A7 (DF _ _ _) fun _ L M _=>EY _ _ rfl
theorem Gu {n:V} {ts:List AX} {ns:List V} {x:Int} {h:List AX} {z:List V} (F:An n ts ns=.ok x h z):0≤x:=by
 have:=(D5 F).1;omega
theorem Z01 {P:Prop} (h:P:=by
 obtain⟨_,_,_,_,h⟩:=bind_eq h;exact Gu h):P:=h
theorem VW {Ak:C4} : ∀f,XL (E5 Ak f):=by
 intro f;cases f with
 |zero=>intro _ _ _ _ _ h;cases h
 |succ f=>
  intro ts ns x z F h;rw[E5]at h;obtain⟨_,_,_,_,h⟩:=bind_eq h;obtain⟨_,_,_,_,h⟩:=bind_eq h;obtain⟨_,_,_,_,h⟩:=bind_eq h;split at h
  ·obtain⟨_,_,_,_,h⟩:=bind_eq h;exact Gu h
  ·split at h
   ·obtain⟨_,_,_,_,h⟩:=bind_eq h;exact Z01
   ·obtain⟨_,_,_,_,h⟩:=bind_eq h;exact Gu h
theorem SA {Ak:C4} (s:List UInt8):XL (coreS Ak s):=by
 intro ts ns x z F h;unfold coreS at h;split at h
 ·obtain⟨_,_,_,_,h⟩:=bind_eq h;exact Z01
 ·split at h
  ·obtain⟨_,_,_,_,h⟩:=bind_eq h;exact Z01
  ·split at h
   ·exact VW _ _ _ _ _ _ h
   ·split at h
    ·obtain⟨_,_,_,_,h⟩:=bind_eq h;obtain⟨_,_,_,_,h⟩:=bind_eq h;exact Z01
    ·split at h
     ·obtain⟨_,_,_,_,h⟩:=bind_eq h;exact Gu h
     ·obtain⟨_,_,_,_,h⟩:=bind_eq h;obtain⟨_,_,_,_,h⟩:=bind_eq h;obtain⟨_,_,_,_,h⟩:=bind_eq h;exact Z01
theorem Tw {l:EO} (h:GX l):GX (Fh l)∧ ∀d,XL (Fh l d):=by
 refine⟨fun d pre ts ns=>?_,fun d ts ns x z F hx=>?_⟩
 ·cases ts with
  |nil=>rfl
  |cons t r=>exact EB (fun _=>rfl) (fun _=>TH (h d) _ _ _ _)
 ·cases ts with
  |nil=>cases hx
  |cons t r=>
   unfold Fh at hx;simp only[]at hx;split at hx
   ·cases hx
   ·exact SA _ _ _ _ _ _ hx
theorem Rx: ∀f,GX (core f)∧ ∀d,XL (core f d):=by
 intro f;induction f with
 |zero=>exact⟨fun _ _ _ _=>rfl,fun _ _ _ _ _ _ h=>by cases h⟩
 |succ f ih=>exact Tw (Qp (Ua ih.1 ih.2))
theorem RT (f:Nat):GX (Ez (core f)):=Ua (Rx f).1 (Rx f).2
end
theorem Ik {r:C4} (h:K0 r) (ts:List AX) (ns:List V):r ts ns=(r ts []).mv ns (EW ns.length):=by
 have:=h ns ts [];rw[show Ek ns []=ns by simp[Ek]]at this;exact this
def CJ (a:List V×List Int) (ms:List V):List V×List Int:=if ms=[]then(a.1,a.2++[-1])else(Ek a.1 ms,a.2++[((a.1.length+ms.length:Nat):Int)-1])
def AP (ps:List (List V)):List V×List Int:=ps.foldl CJ ([],[])
def Bc (ps:List (List V)) (n:V):List V:=(AP ps).1++[{ n with kids:=n.kids++(AP ps).2 }]
theorem Fo (ps:List (List V)) (ms:List V):AP (ps++[ms])=CJ (AP ps) ms:=by unfold AP;rw[List.foldl_append];rfl
theorem IK: ∀ps:List (List V),(AP ps).2.length=ps.length:=by
 intro ps;have: ∀(ps:List (List V)) (a:List V×List Int),(ps.foldl CJ a).2.length=a.2.length+ps.length:=by
  intro ps;induction ps with
  |nil=>intro a;rfl
  |cons p ps ih=>
   intro a;rw[List.foldl_cons,ih,BP];unfold CJ;split<;>simp only[BE,BP,List.length_nil]<;>omega
 rw[AP,this];simp
end
section
open Lx
def Wl:List AX→Prop
 |[]=>True
 |t::r=>(t.k=1→t.t∉Dr)∧(t.k=2→t.t∈Dr)∧(t.k=3→ ∃o q,r=o::q∧FA o=true)∧Wl r
theorem Wl.tail {ts:List AX} (h:Wl ts):Wl ts.tail:=by
 cases ts with
 |nil=>exact h
 |cons t r=>exact h.2.2.2
theorem Wl.Qd {ts:List AX} (h:Wl ts) {s:List UInt8} (hs:s∈Dr):BR ts s=Dn ts s:=by
 unfold BR;cases ts with
 |nil=>rfl
 |cons t r=>
  have:Fl (t::r) s=false:=by
   cases z:Fl (t::r) s with
   |false=>rfl
   |true=>
    obtain⟨F,G⟩:=Uf z;exact Ai (G▸hs) (h.1 F)
  rw[this,Bool.or_false]
theorem Wl.WJ {ts:List AX} (h:Wl ts) {s:List UInt8} (hs:s∉Dr):BR ts s=Fl ts s:=by
 unfold BR;cases ts with
 |nil=>rfl
 |cons t r=>
  have:Dn (t::r) s=false:=by
   cases z:Dn (t::r) s with
   |false=>rfl
   |true=>
    obtain⟨F,G⟩:=Lc z;exact Ai (G▸h.2.1 F) hs
  rw[this,Bool.false_or]
theorem Wl.drop {ts:List AX} (h:Wl ts): ∀n,Wl (ts.drop n)
 |0=>by rw[List.drop_zero];exact h
 |n+1=>by
  rw[←List.drop_drop,List.drop_one];exact(h.drop n).tail
theorem Tq: ∀s∈Dr,s≠[]∧((s.headD 0=60∨s.headD 0=62)→Fv.contains s=true):=by decide
theorem Q5: ∀s∈Dr,C3 DA (s.headD 0)=true:=by decide
theorem RV {c:UInt8} {r:List UInt8} (F:c=60∨c=62): ∃s,CX (c::r)=.tok 2 s∧Fv.contains s=true:=by
 cases h:Dr.find? (CU (c::r))with
 |none=>
  rw[List.find?_eq_none]at h;exfalso;rcases F with rfl|rfl
  ·exact h [60] (by decide) (by simp[CU])
  ·exact h [62] (by decide) (by simp[CU])
 |some s=>
  have I:=List.mem_of_find?_eq_some h;have z:=List.find?_some h;have hs:DT (c::r)=s:=(by unfold DT;rw[h];rfl);obtain⟨G,J⟩:=Tq s I;have K:s.headD 0=c:=by
   unfold CU at z;rw[decide_eq_true_eq]at z;cases s with
   |nil=>exact Ai rfl G
   |cons x q=>
    rw[BP,List.take_succ_cons]at z;injection z with z _;exact z.symm
  refine⟨s,?_,J (by rw[K];exact F)⟩;unfold CX;rw[hs,Ah G]
def XT:List AX→Prop
 |[]=>True
 |t::r=>(t.k=3→ ∃o q,r=o::q∧FA o=true)∧XT r
theorem Pq {c:UInt8} {r:List UInt8} (h:c=60∨c=62):A4 (c::r)=0:=by
 rw[Cp];have z: ¬(c=32∨c=9):=(by rcases h with rfl|rfl<;>decide);have F: ¬c=35:=(by rcases h with rfl|rfl<;>decide);rw[U z,U,U F];intro e;have:c=92:=by
  cases r with
  |nil=>simp at e
  |cons d r=>injection e with e _
 rcases h with rfl|rfl<;>exact Ai this (by decide)
theorem Z02 {P:Prop} (h:P:=by
 exact⟨[],by simp[h],⟨fun h=>by omega,trivial⟩,fun h=>by omega⟩):P:=h
theorem XM {l:List UInt8} (ab:l.length≤4096) (E:AX) (aq:E.k=4): ∀(f i:Nat) (K ts:List AX),A4 (l.drop i)=0→Dk l f i K=.ok ts→l.length<i+f→ ∃G,ts=K++G∧XT (G++[E])∧(i<l.length→ ∃k s q,G=⟨k,s,i⟩::q∧CX (l.drop i)=.tok k s):=by
 intro f;induction f with
 |zero=>
  intro i K ts _ h ac;rw[Dk]at h;injection h with h;exact Z02
 |succ f ih=>
  intro i K ts ad h ac;rw[Dk]at h;split at h
  ·rename_i ae;split at h
   ·cases h
   ·split at h
    ·rename_i k s z;have I:=Rm ab ae ad z;have ar:1≤s.length:=by
      rcases I.kk with h|h|h
      ·obtain⟨c,r,e,_⟩:=I.wd h;rw[show s=c::r from e];simp
      ·exact(IQ _ (I.sg h)).1
      ·obtain⟨c,e,_⟩:=I.io h;rw[show s=[c]from e];simp
     have af:A4 (l.drop (i+s.length+A4 (l.drop (i+s.length))))=0:=by
      have:=Dl _ (l.drop (i+s.length)) rfl;rwa [List.drop_drop]at this
     obtain⟨G,ag,ah,ai⟩:=ih _ _ _ af h (by omega);refine⟨⟨k,s,i⟩::G,by rw[ag,List.append_assoc];rfl,⟨fun hk=>?_,ah⟩,fun _=>⟨k,s,G,rfl,z⟩⟩;simp only[]at hk;subst hk;obtain⟨c,O,_⟩:=I.io rfl;simp only[]at O;subst O;have L:Nq (l.drop i) 1=true:=by
      unfold CX at z;split at z
      ·cases z
      ·split at z
       ·rename_i n au;injection z with W X;have F:Nq (l.drop i) n=true:=by
         cases aj:Nq (l.drop i) n with
         |true=>rfl
         |false=>rw[aj]at W;simp at W
        have J:=F;unfold Nq at J;rw[decide_eq_true_eq]at J;rw[J.1]at F;exact F
       ·cases z
       ·cases z
     unfold Nq at L;rw[decide_eq_true_eq]at L;obtain⟨_,_,_,X,F⟩:=L;rw[Dq]at X;have aa:l.drop (i+1)=l[i+1]'(by omega)::l.drop (i+1+1):=List.drop_eq_getElem_cons (by omega);have J:(l.drop i).getD 1 0=l[i+1]'(by omega):=by
      rw[List.getD_eq_getElem?_getD,List.getElem?_drop,List.getElem?_eq_getElem (by omega)];rfl
     rw[J]at F;have ak:A4 (l.drop (i+1))=0:=(by rw[aa];exact Pq F);have M:=ai;simp only[BP,List.length_nil,Nat.zero_add]at M;rw[ak,Nat.add_zero]at M;obtain⟨aw,s2,q,al,N⟩:=M (by omega);rw[aa]at N;obtain⟨s3,am,an⟩:=RV (r:=l.drop (i+1+1)) F;rw[am]at N;injection N with ao ap;subst ao ap;refine⟨⟨2,s3,i+1⟩,q++[E],by rw[al];rfl,?_⟩;show((2:Nat)==2&&Fv.contains s3)=true;rw[an];rfl
    ·cases h
    ·cases h
  ·injection h with h;exact Z02
theorem Up: ∀ts:List AX,(∀t∈ts,(t.k=1→t.t∉Dr)∧(t.k=2→t.t∈Dr))→XT ts→Wl ts
 |[],_,_=>trivial
 |t::r,h,z=>⟨(h t (List.mem_cons_self ..)).1,(h t (List.mem_cons_self ..)).2,z.1,Up r (fun x hx=>h x (List.mem_cons_of_mem _ hx)) z.2⟩
theorem VY {l:List UInt8} {ts:List AX} (h:Fp l=.ok ts):Wl ts:=by
 obtain⟨I,W,e,J,_⟩:=US h;have K:XT ts:=by
  unfold Fp at h;rw[U (by omega)]at h;split at h
  ·rename_i X L;injection h with h;obtain⟨aa,G,M,_⟩:=XM I ⟨4,[],l.length⟩ rfl _ _ _ _ (Dl _ l rfl) L (by omega);rw[List.nil_append]at G;subst G;rw[←h];exact M
  ·cases h
 refine Up ts (fun t z=>?_) K;rw[e,List.mem_append]at z;rcases z with z|z
 ·have:=J t z;refine⟨fun hk N=>?_,this.sg⟩;obtain⟨c,r,e,O⟩:=this.wd hk;have F:=Q5 _ N;rw[e]at F;rw[show(c::r).headD 0=c from rfl,O]at F;cases F
 ·rw[List.mem_singleton]at z;subst z;exact⟨fun h=>(by cases h),fun h=>(by cases h)⟩
end
end Go.Proofs.YtdhfhphbkfgamaaGreat
