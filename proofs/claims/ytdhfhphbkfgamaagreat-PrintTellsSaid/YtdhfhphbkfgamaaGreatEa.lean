/- A part. -/
import Derived.Test.YtdhfhphbkfgamaaGreatQa
set_option maxRecDepth 100000
set_option linter.all false
namespace Go.Proofs.YtdhfhphbkfgamaaGreat
section
open Lx Proofs.Tryz
def Es(b:Nat)(k:Int):Int:=if k<0 then-1 else k+b
def V.sh(b:Nat)(n:V):V:= { n with kids:=n.kids.map (Es b) }
def E3(pre ns:List V):List V:=pre++ns.map (V.sh pre.length)
def PR.mv{α β:Type}(pre:List V)(g:α->β):PR α->PR β
 | .ok x ts ns=> .ok (g x) ts (E3 pre ns)
 | .bad a e=> .bad a e
theorem Fu(pre ns:List V):(E3 pre ns).length=pre.length+ns.length:=by simp[E3]
theorem PI(b n:Nat):Es b (n:Int)=((b+n:Nat):Int):=by unfold Es;rw[AP (by omega)];omega
theorem Ts(b:Nat):Es b (-1)= -1:=by unfold Es;rw[Ai (by omega)]
theorem Iq(b:Nat)(x:Int)(h:0<=x):Es b x=x+b:=by unfold Es;rw[AP (by omega)]
theorem JX(pre ns:List V)(n m:V)(h:m=n.sh pre.length):E3 pre ns++[m]=E3 pre (ns++[n]):=by subst h;simp[E3]
theorem KZ(pre ns:List V):((E3 pre ns).length:Int)=Es pre.length ns.length:=by rw[Fu,PI]
def Kg(b:Nat)(k:List Int×Bool):List Int×Bool:=(k.1.map (Es b),k.2)
section
variable {α β γ δ:Type}{pre:List V}
theorem A9{p:PR α}{h:PR β}{g:α->β}{f:α->List AY->List V->PR γ}{z:β->List AY->List V->PR δ}{F:γ->δ}(G:h=p.mv pre g)(I:∀x ts ns,p=.ok x ts ns->z (g x) ts (E3 pre ns)=(f x ts ns).mv pre F):h.bind z=(p.bind f).mv pre F:=by
 subst G;cases p with
 |ok x ts ns=>exact I x ts ns rfl
 |bad a e=>rfl
theorem CO{c:Bool}{p q:PR α}{z F:PR β}{h:α->β}(G:c=true->z=p.mv pre h)(I:c=false->F=q.mv pre h):(if c=true then z else F)=(if c=true then p else q).mv pre h:=by
 cases c with
 |true=>exact G rfl
 |false=>exact I rfl
theorem ET{c:Prop}[Decidable c]{p q:PR α}{F G:PR β}{z:α->β}(I:c->F=p.mv pre z)(J:¬c->G=q.mv pre z):(if c then F else G)=(if c then p else q).mv pre z:=by
 by_cases h:c
 ·rw[Ai h,Ai h];exact I h
 ·rw[AP h,AP h];exact J h
theorem FY(ts:List AY)(g:α->β):(A3 ts:PR β)=(A3 ts:PR α).mv pre g:=by unfold A3;cases ts<;>rfl
theorem Eo{n m:V}(ts:List AY)(ns:List V)(h:m=n.sh pre.length):Ao m ts (E3 pre ns)=(Ao n ts ns).mv pre (Es pre.length):=by
 unfold Ao;rw[JX pre ns n m h,KZ];rfl
theorem DT(s:List UInt8)(ts:List AY)(ns:List V):AX s ts (E3 pre ns)=(AX s ts ns).mv pre id:=by
 unfold AX;exact CO (fun _=>rfl) (fun _=>FY _ _)
def Lk(r:DC):Prop:=∀pre ts ns,r ts (E3 pre ns)=(r ts ns).mv pre (Es pre.length)
def Hv(r:Eg):Prop:=∀d,Lk (r d)
theorem NG{h:DC}(I:Lk h):∀(f:Nat) (kids:List Int) (z:Bool) (ts:List AY) (ns:List V),Cd h f (kids.map (Es pre.length)) z ts (E3 pre ns)=(Cd h f kids z ts ns).mv pre (Kg pre.length):=by
 intro f;induction f with
 |zero=>intro _ _ _ _;rfl
 |succ f ih=>
  intro kids z ts ns;rw[Cd,Cd];refine A9 (I _ _ _) fun x t1 F _=>?_
  have G:∀y:Int,kids.map (Es pre.length)++[Es pre.length y]=(kids++[y]).map (Es pre.length):=fun y=>by simp
  have J:E3 pre F++[({ kind:=7,kids:=[Es pre.length x] } :V)]=E3 pre (F++[{ kind:=7,kids:=[x] }]):=JX _ _ _ _ rfl;simp only[];rw[J,KZ];cases BT t1 C9 with
  |true=>
   simp only[if_true,Bool.true_or];rw[G];exact CO (fun _=>ih _ _ _ _) (fun _=>rfl)
  |false=>
   simp only[Bool.false_eq_true,if_false,Bool.false_or];rw[G];exact CO (fun _=>CO (fun _=>ih _ _ _ _) (fun _=>rfl)) (fun _=>rfl)
theorem V6{h:DC}(z:Lk h):Lk (Gm h):=by
 intro pre ts ns;unfold Gm;refine A9 (NG z _ [] _ _ _) fun k t1 F _=>?_
 obtain⟨l,b⟩:=k;unfold Kg;match l with
 |[]=>exact Eo _ _ rfl
 |[x]=>exact CO (fun _=>Eo _ _ rfl) (fun _=>rfl)
 |x::y::l=>exact Eo _ _ rfl
theorem Nv{h:DC}(G:Lk h):∀(f:Nat) (x:Int) (ts:List AY) (ns:List V),CY h f (Es pre.length x) ts (E3 pre ns)=(CY h f x ts ns).mv pre (Es pre.length):=by
 intro f;induction f with
 |zero=>intro _ _ _;rfl
 |succ f ih=>
  intro x ts ns;rw[CY,CY];refine CO (fun _=>?_) (fun _=>CO (fun _=>?_) (fun _=>rfl));all_goals
   refine A9 (G _ _ _) fun y t1 F _=>?_
   have e:∀z:Int,E3 pre F++[({ kind:=z,kids:=[Es pre.length x,Es pre.length y] } :V)]=E3 pre (F++[{ kind:=z,kids:=[x,y] }]):=fun z=>JX _ _ _ _ rfl
   rw[KZ,e];exact ih _ _ _
theorem RU{h:DC}(z:Lk h):Lk (GV h):=fun pre ts ns=>A9 (z _ _ _) fun x t1 F _=>Nv z _ _ _ _
theorem Ni{z:DC}(F:Lk z):∀(f:Nat) (h:List Int) (ts:List AY) (ns:List V),DK z f (h.map (Es pre.length)) ts (E3 pre ns)=(DK z f h ts ns).mv pre (List.map (Es pre.length)):=by
 intro f;induction f with
 |zero=>intro _ _ _;rfl
 |succ f ih=>
  intro h ts ns;rw[DK,DK];refine CO (fun _=>A9 (F _ _ _) fun y t1 G _=>?_) (fun _=>rfl);rw[show h.map (Es pre.length)++[Es pre.length y]=(h++[y]).map (Es pre.length) by simp];exact ih _ _ _
theorem TL{I:DC} :∀(f:Nat) (z:List Int) (ts:List AY) (ns:List V) (k:List Int) (F:List AY) (G:List V),z≠[]->DK I f z ts ns=.ok k F G->k≠[]:=by
 intro f;induction f with
 |zero=>intro _ _ _ _ _ _ _ h;cases h
 |succ f ih=>
  intro z ts ns k F G hk h;rw[DK]at h;split at h
  ·obtain⟨y,t1,K,_,J⟩:=bind_eq h;exact ih _ _ _ _ _ _ (by simp) J
  ·injection h with h _ _;exact h▸hk
theorem Uy(b:Bool)(x y:Int)(ts:List AY)(ns:List V)(h:y=Es pre.length x):Ff b y ts (E3 pre ns)=(Ff b x ts ns).mv pre (Es pre.length):=by
 subst h;unfold Ff;exact CO (fun _=>Eo _ _ rfl) (fun _=>rfl)
theorem O2{h:DC}(z:Lk h):Lk (FM h):=by
 intro pre ts ns;unfold FM;refine A9 (z _ _ _) fun x t1 I _=>?_
 refine A9 (Ni z _ [x] _ _) fun k t2 F hk=>?_
 have G:=TL _ _ _ _ _ _ _ (by simp) hk;simp only[List.length_map];refine ET (fun _=>?_) (fun _=>?_)
 ·have e:E3 pre F++[({ kind:=3,kids:=k.map (Es pre.length) } :V)]=E3 pre (F++[{ kind:=3,kids:=k }]):=JX _ _ _ _ rfl;rw[e];exact Uy _ _ _ _ _ (KZ _ _)
 ·refine Uy _ _ _ _ _ ?_;cases k with
  |nil=>exact Aj rfl G
  |cons a k=>rfl
theorem Mt:∀(f:Nat) (h:List Rd) (ts:List AY) (ns:List V),B2 f h ts (E3 pre ns)=(B2 f h ts ns).mv pre id:=by
 intro f;induction f with
 |zero=>intro _ _ _;rfl
 |succ f ih=>
  intro h ts ns;cases ts with
  |nil=>rfl
  |cons t r=>
   rw[B2,B2];exact CO (fun _=>CO (fun _=>ih _ _ _) (fun _=>FY _ _)) (fun _=>CO (fun _=>CO (fun _=>ih _ _ _) (fun _=>FY _ _)) (fun _=>rfl))
theorem Md(ts:List AY)(ns:List V):Cb ts (E3 pre ns)=(Cb ts ns).mv pre id:=Mt _ _ _ _
theorem OY:∀(f:Nat) (n m:V) (ts:List AY) (ns:List V),m=n.sh pre.length->Co f m ts (E3 pre ns)=(Co f n ts ns).mv pre (V.sh pre.length):=by
 intro f;induction f with
 |zero=>intro _ _ _ _ _;rfl
 |succ f ih=>
  intro n m ts ns h;subst h;rw[Co,Co];refine A9 (Md _ _) fun l t1 z _=>?_
  cases t1 with
  |nil=>rfl
  |cons t r=>
   simp only[id];exact ET (fun _=>rfl) (fun _=>ET (fun _=>ih _ _ _ _ rfl) (fun _=>CO (fun _=>ih _ _ _ _ rfl) (fun _=>CO (fun _=>rfl) (fun _=>ih _ _ _ _ rfl))))
theorem XW:Lk Iz:=by
 intro pre ts ns;unfold Iz;refine A9 (OY _ _ _ _ _ rfl) fun n t1 h _=>?_
 exact ET (fun _=>FY _ _) (fun _=>Eo _ _ rfl)
def XD(r:DC):Prop:=∀ts ns x h z,r ts ns=.ok x h z->0<=x
theorem Nk{r:Eg}(h:Hv r):Hv (B1 r):=by
 intro d pre ts ns;unfold B1;exact ET (fun _=>rfl) (fun _=>h _ _ _ _)
theorem Ta{ns:List V}{x:Int}(l:List Rd)(G:0<=x):Dq (E3 pre ns) (Es pre.length x) l=E3 pre (Dq ns x l):=by
 obtain⟨i,rfl⟩:∃i:Nat,x=i:=⟨x.toNat,by omega⟩;rw[PI];unfold Dq E3;rw[Int.toNat_natCast,Int.toNat_natCast];apply List.ext_getElem?;intro j;rw[List.getElem?_modify];rcases Nat.lt_or_ge j pre.length with h|h
 ·have F:¬(pre.length+i=j):=(by omega);rw[Gx h,Gx h];simp[F]
 ·obtain⟨m,rfl⟩:∃m,j=pre.length+m:=⟨j-pre.length,by omega⟩;rw[Ig (by omega),Ig (by omega),Nat.add_sub_cancel_left,II,II,List.getElem?_modify];cases ns[m]? with
  |none=>rfl
  |some n=>
   by_cases z:i=m
   ·simp[z,V.sh]
   ·simp[z]
theorem Uq{core:Eg}(h:Hv core)(z:∀d,XD (core d)):Hv (FI core):=by
 intro d pre ts ns;unfold FI;refine A9 (Nk h d pre ts ns) fun x t1 G hx=>?_
 have F:0<=x:=by
  unfold B1 at hx;split at hx
  ·cases hx
  ·exact z _ _ _ _ _ _ hx
 refine A9 (Md _ _) fun l t2 I _=>?_
 show PR.ok _ _ _=PR.ok _ _ _;rw[id,Ta l F]
theorem XB{h:Eg}(z:Hv h):Hv (I0 h):=by
 intro d pre ts ns;unfold I0;refine A9 (DT _ _ _) fun _ t1 F _=>A9 (DT _ _ _) fun _ t2 G _=>?_
 exact CO (fun _=>A9 (z _ _ _ _) fun x t3 I _=>Eo _ _ rfl) (fun _=>FY _ _)
theorem VC{h:Eg}(z:Hv h):Hv (FW h):=by
 intro d pre ts ns;unfold FW;exact CO (fun _=>z _ _ _ _) (fun _=>CO (fun _=>Nk (XB z) _ _ _ _) (fun _=>XW _ _ _))
theorem Sp{h:Eg}(z:Hv h):Hv (S8 h):=fun d=>V6 (RU (O2 (VC z d)))
theorem VP{Al:DC}(h:Lk Al):∀f,Lk (FZ Al f):=by
 intro f;induction f with
 |zero=>intro _ _ _;rfl
 |succ f ih=>
  intro pre ts ns;rw[FZ,FZ];refine A9 (h _ _ _) fun a t1 G _=>A9 (DT _ _ _) fun _ t2 I _=>A9 (h _ _ _) fun b t3 J _=>?_
  refine CO (fun _=>?_) (fun _=>CO (fun _=>?_) (fun _=>?_))
  ·exact A9 (ih _ _ _) fun c t4 z _=>Eo _ _ rfl
  ·exact A9 (h _ _ _) fun c t4 z _=>A9 (DT _ _ _) fun _ t5 F _=>Eo _ _ rfl
  ·exact A9 (DT _ _ _) fun _ t5 F _=>Eo _ _ rfl
theorem WG(ts:List AY)(ns:List V):E4 ts (E3 pre ns)=(E4 ts ns).mv pre id:=by
 cases ts with
 |nil=>rfl
 |cons t r=>
  unfold E4;simp only[];refine CO (fun _=>CO (fun _=>CO (fun _=>A9 (DT _ _ _) fun _ t2 h _=>rfl) (fun _=>FY _ _)) (fun _=>A9 (DT _ _ _) fun _ t2 h _=>rfl)) (fun _=>FY _ _)
theorem St(ts:List AY)(ns:List V):Ea ts (E3 pre ns)=(Ea ts ns).mv pre id:=by
 cases ts with
 |nil=>rfl
 |cons t r=>exact ET (fun _=>rfl) (fun _=>FY _ _)
theorem Wm:∀(f:Nat) (h:List (List UInt8)) (ts:List AY) (ns:List V),DN f h ts (E3 pre ns)=(DN f h ts ns).mv pre id:=by
 intro f;induction f with
 |zero=>intro _ _ _;rfl
 |succ f ih=>
  intro h ts ns;rw[DN,DN];exact CO (fun _=>A9 (St _ _) fun s t1 z _=>ih _ _ _) (fun _=>rfl)
theorem NY{Al:DC}(z:Lk Al):∀(f:Nat) (n m:V) (ts:List AY) (ns:List V),m=n.sh pre.length->Ck Al f m ts (E3 pre ns)=(Ck Al f n ts ns).mv pre (V.sh pre.length):=by
 intro f;induction f with
 |zero=>intro _ _ _ _ _;rfl
 |succ f ih=>
  intro n m ts ns F;subst F;rw[Ck,Ck];refine CO (fun _=>rfl) (fun _=>A9 (St _ _) fun s t1 G _=>A9 (Wm _ _ _ _) fun p t2 I _=>A9 (DT _ _ _) fun _ t3 h _=>?_);refine A9 (p:=if BZ (AG t3)=true then Al (AG t3) h else .ok (-1) (AG t3) h) (g:=Es pre.length) (CO (fun _=>z _ _ _) (fun _=>?_)) fun b t4 J _=>?_
  ·show PR.ok _ _ _=PR.ok _ _ _;rw[Ts]
  ·simp only[id];have e:({ n.sh pre.length with AT:=(n.sh pre.length).AT++[p],kids:=(n.sh pre.length).kids++[Es pre.length b] } :V)=V.sh pre.length { n with AT:=n.AT++[p],kids:=n.kids++[b] } :=by
    simp[V.sh]
   refine CO (fun _=>ih _ _ _ _ e) (fun _=>?_);show PR.ok _ _ _=PR.ok _ _ _;rw[e]
theorem To{Al:DC}(h:Lk Al)(ts:List AY)(ns:List V):EN Al ts (E3 pre ns)=(EN Al ts ns).mv pre (V.sh pre.length):=by
 unfold EN;refine A9 (St _ _) fun s t1 z _=>A9 (DT _ _ _) fun _ t2 F _=>A9 (NY h _ _ _ _ _ rfl) fun n t3 G _=>?_
 exact A9 (DT _ _ _) fun _ t4 I _=>rfl
theorem Td{Al:DC}(h:Lk Al)(s:List UInt8):Lk (coreS Al s):=by
 intro pre ts ns;unfold coreS;refine ET (fun _=>?_) (fun _=>ET (fun _=>?_) (fun _=>ET (fun _=>VP h _ _ _ _) (fun _=>ET (fun _=>?_) (fun _=>ET (fun _=>?_) (fun _=>?_)))))
 ·exact A9 (h _ _ _) fun x t1 z _=>A9 (DT _ _ _) fun _ t2 F _=>Eo _ _ rfl
 ·exact A9 (h _ _ _) fun x t1 z _=>A9 (DT _ _ _) fun _ t2 F _=>Eo _ _ rfl
 ·exact A9 (WG _ _) fun n t1 z _=>A9 (h _ _ _) fun x t2 F _=>A9 (DT _ _ _) fun _ t3 G _=>Eo _ _ rfl
 ·exact A9 (To h _ _) fun n t1 z _=>Eo _ _ rfl
 ·exact A9 (h _ _ _) fun x t1 z _=>A9 (DT _ _ _) fun _ t2 F _=>A9 (h _ _ _) fun y t3 G _=>A9 (DT _ _ _) fun _ t4 I _=>Eo _ _ rfl
theorem Ic{n:V}{ts:List AY}{ns:List V}{x:Int}{h:List AY}{z:List V}(F:Ao n ts ns=.ok x h z):0<=x:=by
 have:=(EM F).1;omega
theorem Wn{Al:DC} :∀f,XD (FZ Al f):=by
 intro f;cases f with
 |zero=>intro _ _ _ _ _ h;cases h
 |succ f=>
  intro ts ns x z F h;rw[FZ]at h;obtain⟨_,_,_,_,h⟩:=bind_eq h;obtain⟨_,_,_,_,h⟩:=bind_eq h;obtain⟨_,_,_,_,h⟩:=bind_eq h;split at h
  ·obtain⟨_,_,_,_,h⟩:=bind_eq h;exact Ic h
  ·split at h
   ·obtain⟨_,_,_,_,h⟩:=bind_eq h;obtain⟨_,_,_,_,h⟩:=bind_eq h;exact Ic h
   ·obtain⟨_,_,_,_,h⟩:=bind_eq h;exact Ic h
theorem Sh{Al:DC}(s:List UInt8):XD (coreS Al s):=by
 intro ts ns x z F h;unfold coreS at h;split at h
 ·obtain⟨_,_,_,_,h⟩:=bind_eq h;obtain⟨_,_,_,_,h⟩:=bind_eq h;exact Ic h
 ·split at h
  ·obtain⟨_,_,_,_,h⟩:=bind_eq h;obtain⟨_,_,_,_,h⟩:=bind_eq h;exact Ic h
  ·split at h
   ·exact Wn _ _ _ _ _ _ h
   ·split at h
    ·obtain⟨_,_,_,_,h⟩:=bind_eq h;obtain⟨_,_,_,_,h⟩:=bind_eq h;obtain⟨_,_,_,_,h⟩:=bind_eq h;exact Ic h
    ·split at h
     ·obtain⟨_,_,_,_,h⟩:=bind_eq h;exact Ic h
     ·obtain⟨_,_,_,_,h⟩:=bind_eq h;obtain⟨_,_,_,_,h⟩:=bind_eq h;obtain⟨_,_,_,_,h⟩:=bind_eq h;obtain⟨_,_,_,_,h⟩:=bind_eq h;exact Ic h
theorem Tw{l:Eg}(h:Hv l):Hv (F5 l)/\ ∀d,XD (F5 l d):=by
 refine⟨fun d pre ts ns=>?_,fun d ts ns x z F hx=>?_⟩
 ·cases ts with
  |nil=>rfl
  |cons t r=>exact ET (fun _=>rfl) (fun _=>Td (h d) _ _ _ _)
 ·cases ts with
  |nil=>cases hx
  |cons t r=>
   unfold F5 at hx;simp only[]at hx;split at hx
   ·cases hx
   ·exact Sh _ _ _ _ _ _ hx
theorem SQ:∀f,Hv (core f)/\ ∀d,XD (core f d):=by
 intro f;induction f with
 |zero=>exact⟨fun _ _ _ _=>rfl,fun _ _ _ _ _ _ h=>by cases h⟩
 |succ f ih=>exact Tw (Sp (Uq ih.1 ih.2))
theorem Sg(f:Nat):Hv (FI (core f)):=Uq (SQ f).1 (SQ f).2
end
theorem JF{r:DC}(h:Lk r)(ts:List AY)(ns:List V):r ts ns=(r ts []).mv ns (Es ns.length):=by
 have:=h ns ts [];rw[show E3 ns []=ns by simp[E3]]at this;exact this
def CH(a:List V×List Int)(ms:List V):List V×List Int:=if ms=[]then(a.1,a.2++[-1])else(E3 a.1 ms,a.2++[((a.1.length+ms.length:Nat):Int)-1])
def AQ(ps:List (List V)):List V×List Int:=ps.foldl CH ([],[])
def Bf(ps:List (List V))(n:V):List V:=(AQ ps).1++[{ n with kids:=n.kids++(AQ ps).2 }]
theorem GH(ps:List (List V))(ms:List V):AQ (ps++[ms])=CH (AQ ps) ms:=by unfold AQ;rw[List.foldl_append];rfl
theorem Il:∀ps:List (List V),(AQ ps).2.length=ps.length:=by
 intro ps;have:∀(ps:List (List V)) (a:List V×List Int),(ps.foldl CH a).2.length=a.2.length+ps.length:=by
  intro ps;induction ps with
  |nil=>intro a;rfl
  |cons p ps ih=>
   intro a;rw[List.foldl_cons,ih,BR];unfold CH;split<;>simp only[BG,BR,CU]<;>omega
 rw[AQ,this];simp
end
open Lx Proofs.Tryz
def Wl:List AY->Prop
 |[]=>True
 |t::r=>(t.k=1->t.t∉D9)/\(t.k=2->t.t∈D9)/\(t.k=3-> ∃o q,r=o::q/\FO o=true)/\Wl r
theorem Wl.tail{ts:List AY}(h:Wl ts):Wl ts.tail:=by
 cases ts with
 |nil=>exact h
 |cons t r=>exact h.2.2.2
theorem Wl.RF{ts:List AY}(h:Wl ts){s:List UInt8}(hs:s∈D9):BT ts s=Dx ts s:=by
 unfold BT;cases ts with
 |nil=>rfl
 |cons t r=>
  have:GD (t::r) s=false:=by
   cases z:GD (t::r) s with
   |false=>rfl
   |true=>
    obtain⟨F,G⟩:=Uv z;exact Aj (G▸hs) (h.1 F)
  rw[this,Bool.or_false]
theorem Wl.Wv{ts:List AY}(h:Wl ts){s:List UInt8}(hs:s∉D9):BT ts s=GD ts s:=by
 unfold BT;cases ts with
 |nil=>rfl
 |cons t r=>
  have:Dx (t::r) s=false:=by
   cases z:Dx (t::r) s with
   |false=>rfl
   |true=>
    obtain⟨F,G⟩:=MK z;exact Aj (G▸h.2.1 F) hs
  rw[this,Bool.false_or]
theorem Wl.drop{ts:List AY}(h:Wl ts):∀n,Wl (ts.drop n)
 |0=>by rw[List.drop_zero];exact h
 |n+1=>by
  rw[<-List.drop_drop,List.drop_one];exact(h.drop n).tail
theorem UU:∀s∈D9,s≠[]/\((s.headD 0=60\/s.headD 0=62)->GJ.contains s=true):=by decide
theorem Re:∀s∈D9,DB DF (s.headD 0)=true:=by decide
theorem SS{c:UInt8}{r:List UInt8}(F:c=60\/c=62):∃s,Ce (c::r)=.tok 2 s/\GJ.contains s=true:=by
 cases h:D9.find? (Ca (c::r))with
 |none=>
  rw[List.find?_eq_none]at h;exfalso;rcases F with rfl|rfl
  ·exact h [60] (by decide) (by simp[Ca])
  ·exact h [62] (by decide) (by simp[Ca])
 |some s=>
  have I:=List.mem_of_find?_eq_some h;have z:=List.find?_some h;have hs:De (c::r)=s:=(by unfold De;rw[h];rfl);obtain⟨G,J⟩:=UU s I;have K:s.headD 0=c:=by
   unfold Ca at z;rw[Di]at z;cases s with
   |nil=>exact Aj rfl G
   |cons x q=>
    rw[BR,List.take_succ_cons]at z;injection z with z _;exact z.symm
  refine⟨s,?_,J (by rw[K];exact F)⟩;unfold Ce;rw[hs,Ai G]
def X6:List AY->Prop
 |[]=>True
 |t::r=>(t.k=3-> ∃o q,r=o::q/\FO o=true)/\X6 r
theorem QS{c:UInt8}{r:List UInt8}(h:c=60\/c=62):A6 (c::r)=0:=by
 rw[Cu];have z:¬(c=32\/c=9):=(by rcases h with rfl|rfl<;>decide);have F:¬c=35:=(by rcases h with rfl|rfl<;>decide);rw[AP z,AP,AP F];intro e;have:c=92:=by
  cases r with
  |nil=>simp at e
  |cons d r=>injection e with e _
 rcases h with rfl|rfl<;>exact Aj this (by decide)
theorem Xk{l:List UInt8}(ab:l.length<=4096)(E:AY)(aq:E.k=4):∀(f i:Nat) (K ts:List AY),A6 (l.drop i)=0->D3 l f i K=.ok ts->l.length<i+f-> ∃G,ts=K++G/\X6 (G++[E])/\(i<l.length-> ∃k s q,G=⟨k,s,i⟩::q/\Ce (l.drop i)=.tok k s):=by
 intro f;induction f with
 |zero=>
  intro i K ts _ h ac;rw[D3]at h;injection h with h;exact⟨[],by simp[h],⟨fun h=>by omega,trivial⟩,fun h=>by omega⟩
 |succ f ih=>
  intro i K ts ad h ac;rw[D3]at h;split at h
  ·rename_i ae;split at h
   ·cases h
   ·split at h
    ·rename_i k s z;have I:=Se ab ae ad z;have ar:1<=s.length:=by
      rcases I.kk with h|h|h
      ·obtain⟨c,r,e,_⟩:=I.wd h;rw[show s=c::r from e];simp
      ·exact(Ix _ (I.sg h)).1
      ·obtain⟨c,e,_⟩:=I.io h;rw[show s=[c]from e];simp
     have af:A6 (l.drop (i+s.length+A6 (l.drop (i+s.length))))=0:=by
      have:=D5 _ (l.drop (i+s.length)) rfl;rwa [List.drop_drop]at this
     obtain⟨G,ag,ah,ai⟩:=ih _ _ _ af h (by omega);refine⟨⟨k,s,i⟩::G,by rw[ag,List.append_assoc];rfl,⟨fun hk=>?_,ah⟩,fun _=>⟨k,s,G,rfl,z⟩⟩;simp only[]at hk;subst hk;obtain⟨c,O,_⟩:=I.io rfl;simp only[]at O;subst O;have L:PB (l.drop i) 1=true:=by
      unfold Ce at z;split at z
      ·cases z
      ·split at z
       ·rename_i n au;injection z with W X;have F:PB (l.drop i) n=true:=by
         cases aj:PB (l.drop i) n with
         |true=>rfl
         |false=>rw[aj]at W;simp at W
        have J:=F;unfold PB at J;rw[Di]at J;rw[J.1]at F;exact F
       ·cases z
       ·cases z
     unfold PB at L;rw[Di]at L;obtain⟨_,_,_,X,F⟩:=L;rw[D8]at X;have aa:l.drop (i+1)=l[i+1]'(by omega)::l.drop (i+1+1):=List.drop_eq_getElem_cons (by omega);have J:(l.drop i).getD 1 0=l[i+1]'(by omega):=by
      rw[EK,List.getElem?_drop,CZ (by omega)];rfl
     rw[J]at F;have ak:A6 (l.drop (i+1))=0:=(by rw[aa];exact QS F);have M:=ai;simp only[BR,CU,Dc]at M;rw[ak,Nat.add_zero]at M;obtain⟨aw,s2,q,al,N⟩:=M (by omega);rw[aa]at N;obtain⟨s3,am,an⟩:=SS (r:=l.drop (i+1+1)) F;rw[am]at N;injection N with ao ap;subst ao ap;refine⟨⟨2,s3,i+1⟩,q++[E],by rw[al];rfl,?_⟩;show((2:Nat)==2&&GJ.contains s3)=true;rw[an];rfl
    ·cases h
    ·cases h
  ·injection h with h;exact⟨[],by simp[h],⟨fun h=>by omega,trivial⟩,fun h=>by omega⟩
theorem VR:∀ts:List AY,(∀t∈ts,(t.k=1->t.t∉D9)/\(t.k=2->t.t∈D9))->X6 ts->Wl ts
 |[],_,_=>trivial
 |t::r,h,z=>⟨(h t (En ..)).1,(h t (En ..)).2,z.1,VR r (fun x hx=>h x (List.mem_cons_of_mem _ hx)) z.2⟩
theorem WB{l:List UInt8}{ts:List AY}(h:GA l=.ok ts):Wl ts:=by
 obtain⟨I,W,e,J,_⟩:=VB h;have K:X6 ts:=by
  unfold GA at h;rw[AP (by omega)]at h;split at h
  ·rename_i X L;injection h with h;obtain⟨aa,G,M,_⟩:=Xk I ⟨4,[],l.length⟩ rfl _ _ _ _ (D5 _ l rfl) L (by omega);rw[List.nil_append]at G;subst G;rw[<-h];exact M
  ·cases h
 refine VR ts (fun t z=>?_) K;rw[e,ID]at z;rcases z with z|z
 ·have:=J t z;refine⟨fun hk N=>?_,this.sg⟩;obtain⟨c,r,e,O⟩:=this.wd hk;have F:=Re _ N;rw[e]at F;rw[show(c::r).headD 0=c from rfl,O]at F;cases F
 ·rw[DA]at z;subst z;exact⟨fun h=>(by cases h),fun h=>(by cases h)⟩
end Go.Proofs.YtdhfhphbkfgamaaGreat
