/- PrintTells: a part of its proof. -/
import Derived.Test.YtdhfhphbkfgamaaGreatPv
import Derived.Test.YtdhfhphbkfgamaaGreatTo
set_option maxRecDepth 100000
set_option maxHeartbeats 64000000
namespace Go.Proofs.YtdhfhphbkfgamaaGreat
section
open Go.RowKit Lx
def Wn (l:List V):Prop:= ∀n∈l,n.kids.length≤100000∧n.AS.length≤100000∧QL n
theorem Kr: ∀(r:List V) (pre:List V) (h G:List Nat),h.length=pre.length→(∀i,i<h.length→h.getD i 0≤i)→FX r h=some G→
  ∀j (F:j<r.length),∀k∈r[j].kids,(k= -1∧r[j].kind=14)∨(0≤k∧k<pre.length+j)
 |[],_,_,_,_,_,_,j,F=>by simp at F
 |n::r,pre,h,G,J,K,z,j,F=>by
  rw[FX]at z;cases hk:EP h (n.kind==14) n.kids.reverse h.length with
  |none=>rw[hk]at z;cases z
  |some b=>
   rw[hk]at z;obtain⟨M,N⟩:=I0 K _ _ _ (BL _) hk;cases j with
   |zero=>
    intro k I;rcases N k (List.mem_reverse.2 I)with⟨O,W⟩|e
    ·exact .inl ⟨O,eq_of_beq W⟩
    ·exact .inr (by rw[J]at e;omega)
   |succ j=>
    have X: ∀i,i<(h++[b]).length→(h++[b]).getD i 0≤i:=by
     intro i aa;rw[BE,Cd]at aa;by_cases L:i<h.length
     ·rw[List.getD_eq_getElem?_getD,List.getElem?_append_left L,←List.getD_eq_getElem?_getD];exact K i L
     ·obtain rfl:i=h.length:=by omega
      rw[List.getD_eq_getElem?_getD,List.getElem?_append_right (BL _),Nat.sub_self];exact M
    have:=Kr r (pre++[n]) (h++[b]) G (by simp[J]) X z j (by simpa using F);intro k I;rcases this k (by simpa using I)with e|e
    ·exact .inl (by simpa using e)
    ·refine .inr ?_;rw[BE,Cd]at e;omega
theorem VU {l:List V} (z:D7 l=true) (F:Wn l):Cy l∧1≤l.length:=by
 unfold D7 at z;rw[Bool.and_eq_true,Bool.and_eq_true,decide_eq_true_eq,decide_eq_true_eq]at z;obtain⟨⟨K,L⟩,I⟩:=z;cases J:FX l []with
 |none=>rw[J]at I;cases I
 |some M=>
  have hk:=Kr l [] [] M rfl (fun i G=>by simp at G) J;refine⟨⟨⟨fun i G k N=>?_,fun n h=>(F n h).1,L⟩,fun n h=>(F n h).2.2,fun n h=>(F n h).2.1⟩,K⟩;have:=hk i G k N;simpa using this
theorem LO (l:List V) (v:Value) (w:World) (z:DZ w.heap.size w v l) (aK:Wn l):
  Calls Tryz.prog 6 #[v] w fun e w'=>e=.returned (sv (Eu l))∧w.grownBy w' none:=by
 obtain⟨n0,am⟩: ∃n0,w.heap.size=n0:=⟨_,rfl⟩;rw[am]at z;obtain⟨an,ao,rfl,a5⟩:=z.form;have af:=Z (Pd n0 l _ w z);have H:=Z z;have h:=Z am;clear z am;by_cases N:D7 l=true
 ·obtain⟨ap,a6⟩:=VU N aK;obtain⟨K,aB⟩: ∃K,l.length=K+1:=⟨l.length-1,by omega⟩;have a7:(l.length:Int)-1=(K:Int):=(by omega);have a8:(l.length:Int)≤300:=(by have:=ap.ln;omega);have aL:=Z ap;have aM:=Z aB;obtain⟨s,hs⟩: ∃s,BN [] (Ax l l.length K)=s:=⟨_,rfl⟩;have O:Eu l=if 4096<s.length then []else if(B9 s).e=0∧(B9 s).ns=l then s else []:=by
   unfold Eu;rw[Ah N];simp only[];rw[show l.length-1=K by omega,hs]
  have G:=Z O;have aN:=Z hs;rw[N]at af;clear ap aB O hs;unfold sv;go_enter Tryz.func6,Tryz.ntmps6;go_wp2_with fail;refine af.out.mono ?_;rintro e W ⟨rfl,I⟩;have L:=Y.new W 41 #[.slice an l.length ao,.pointer none,.slice none 0 0];have ag:=World.grownBy_alloc W (.cells #[.slice an l.length ao,.pointer none,.slice none 0 0] 41) none;have aq:=DZ.pf H.out (PF.AL (n0:=n0) (BV I ag));obtain⟨J,ar⟩: ∃J,W.alloc (.cells #[.slice an l.length ao,.pointer none,.slice none 0 0] 41)=J:=⟨_,rfl⟩;rw[ar]at L aq ag;obtain⟨M,ah⟩: ∃M,W.heap.size=M:=⟨_,rfl⟩;rw[ah]at L;have aC:n0≤M:=(by rw[←h.out,←ah];exact I.size);have X:CA n0 J M l []:=⟨_,_,_,⟨aC,L,World.ownsRow_nil _ _ _ _,by simp[Value.ownBlock]⟩,.inl rfl,aq,by simp⟩;have aO:=Z X;have aP:=Z ar;have aQ:=Z ah;have aD:Below n0 w J:=(by rw[←h.out];exact DC (BV I ag) (BL _));have aE:=Z aD;have aR:n0≤J.heap.size:=Ef aC (Nat.le_of_lt (Y.lt L));have aS:=Z aR;have aT:=Y.lt L;clear L ag aq ar ah X aD I;go_upto_region 4 with(fail);rw[aP.out,aQ.out];go_wp2_with fail;refine(Nh n0 M l aL.out l.length K (by rw[Nat.min_self,aM.out];omega) [] J aO.out).mono ?_;rintro e aF ⟨rfl,au,aw⟩;rw[aN.out]at au;have aU:=Z au;have aG:Below n0 w aF:=aE.out.trans (R7 aw aS.out);have aV:=Z aG;clear au aG aT;have a9:=Z (DZ.pf (DZ.pf H.out (by
   have:=aE.out;exact(⟨this.os,this.tape,this.output,this.size,fun k hk a'=>this.block k (by rw[h.out]at hk;exact hk)⟩:PF n0 w J))) aw)
  clear aw;have aH:=Z (Rq n0 M l s aF aU.out);unfold C0 sv at aH;go_wp2_with fail;refine aH.out.mono ?_;rintro e aW ⟨rfl,aI⟩;have ax:=Z (aV.out.trans aI);clear aI;have ba:=sz s;by_cases ai:4096<s.length
  ·have aX:decide ((4096:Int)<(s.length:Int))=true:=At (by omega);go_wp2_with fail;go_ret;exact⟨by rw[G.out,Ah ai];rfl,E9 (by rw[h.out];exact ax.out)⟩
  ·have aX:decide ((4096:Int)<(s.length:Int))=false:=Aq (by omega);have ay:=Z (Lf s aW (by omega));unfold Er sv at ay;obtain⟨P,X⟩: ∃P,B9 s=P:=⟨_,rfl⟩;rw[X]at ay G;clear X;go_wp2_with fail;refine ay.out.mono ?_;rintro e aj ⟨aY,rfl,aa,_,az⟩;have F:Below n0 w aj:=ax.out.trans (DC az (by have:=ax.out.size;rw[←h.out];exact this));have ab:=Z F;by_cases ak:P.e=0
   ·have aZ:(P.e !=0)=false:=(by simp[ak]);have aJ:DZ n0 aj _ l:=DZ.pf H.out (⟨F.os,F.tape,F.output,F.size,fun k hk _=>F.block k (by rw[h.out]at hk;exact hk)⟩:PF n0 w aj);have al:=Z (QU n0 l P.ns _ aY aj aJ aa.OR);obtain⟨a0,a1,rfl,_⟩:=(aa.OR (n0:=n0)).form;clear aa az F aJ;by_cases ac:l=P.ns
    ·rw[At ac]at al;have a2:=Z ac;clear ac;go_wp2_with fail;refine al.out.mono ?_;rintro e a3 ⟨rfl,ad⟩;have ae:=ab.out.trans (DC ad (by have:=ab.out.size;rw[←h.out];exact this));have aA:=Z ae;clear ad ae;go_wp2_with fail;go_ret;exact⟨by rw[G.out,U ai,Ah ⟨ak,a2.out.symm⟩];rfl,E9 (by rw[h.out];exact aA.out)⟩
    ·rw[Aq ac]at al;go_wp2_with fail;refine al.out.mono ?_;rintro e a3 ⟨rfl,ad⟩;have ae:=ab.out.trans (DC ad (by have:=ab.out.size;rw[←h.out];exact this));have aA:=Z ae;clear ad ae;go_wp2_with fail;go_ret;exact⟨by rw[G.out,U ai,U (fun z=>ac z.2.symm)];rfl,E9 (by rw[h.out];exact aA.out)⟩
   ·have aZ:(P.e !=0)=true:=(by simpa using ak);obtain⟨a0,a1,rfl,_⟩:=(aa.OR (n0:=n0)).form;clear aa az F;go_wp2_with fail;go_ret;exact⟨by rw[G.out,U ai,U (fun z=>ak z.1)];rfl,E9 (by rw[h.out];exact ab.out)⟩
 ·have O:Eu l=[]:=(by unfold Eu;rw[U N]);rw[show D7 l=false by simpa using N]at af;have G:=Z O;clear O;unfold sv;go_enter Tryz.func6,Tryz.ntmps6;go_wp2_with fail;refine af.out.mono ?_;rintro e W ⟨rfl,I⟩;have a4:=Z I;clear I;go_wp2_with fail;go_ret;exact⟨by rw[G.out];rfl,a4.out⟩
end
section
open Lx
structure Dx (P:List UInt8→Prop) (N:Nat) (ts:List AX):Prop where
 len:ts.length<N
 w: ∀t∈ts,t.k=1∨t.k=3→P t.t
structure N2 (Q P:List UInt8→Prop) (N:Nat) (m:V):Prop where
 name:Q m.name
 AY: ∀s∈m.AY,P s
 words: ∀s∈m.words,P s
 AK: ∀r∈m.AK,r.op∈Fv∧P r.wd
 AS:m.AS.length≤N+1∧ ∀p∈m.AS,p.length≤N+1∧ ∀s∈p,P s
 kids:m.kids.length≤N+1
def NK (m:V):Prop:=(1≤m.kind∧m.kind≤15)∧(m.kind=1→m.AY.length+m.words.length+m.AK.length≠0)∧(3≤m.kind∧m.kind≤6→m.kids≠[])
structure Wu (Q P:List UInt8→Prop) (N:Nat) (m:V):Prop extends N2 Q P N m where
 kd:NK m
def F5 (Q P:List UInt8→Prop) (N:Nat) (ns:List V):Prop:= ∀m∈ns,Wu Q P N m
variable {Q P:List UInt8→Prop} {N:Nat}
def RP (Q P:List UInt8→Prop) (N:Nat) (f:C4):Prop:= ∀ts ns x h z,Dx P N ts→F5 Q P N ns→f ts ns=.ok x h z→Dx P N h∧F5 Q P N z
theorem Dx.tail {ts:List AX} (h:Dx P N ts):Dx P N ts.tail:=
 ⟨by have:=h.len;rw[List.length_tail];omega,fun t z=>h.w t (List.mem_of_mem_tail z)⟩
theorem Dx.of_cons {t:AX} {r:List AX} (h:Dx P N (t::r)):Dx P N r:=h.tail
theorem Dx.breaks: ∀ {ts:List AX},Dx P N ts→Dx P N (AG ts)
 |[],h=>h
 |t::r,h=>by
  rw[AG];split
  ·exact Dx.breaks h.of_cons
  ·exact h
theorem Dx.take {ts:List AX} (h:Dx P N ts) (s:List UInt8):Dx P N (A3 ts s):=by
 unfold A3;split
 ·exact h.tail
 ·exact h
theorem EV {s:List UInt8} {ts:List AX} {ns:List V} {u:Unit} {z:List AX} {F:List V} (h:AW s ts ns=.ok u z F):z=ts.tail∧F=ns:=by
 unfold AW at h;split at h
 ·injection h with _ G I;exact⟨G.symm,I.symm⟩
 ·exact(CT h).elim
theorem F5.lay {ns:List V} {m:V} (z:F5 Q P N ns) (F:Wu Q P N m):F5 Q P N (ns++[m]):=by
 intro u h;rw[List.mem_append,List.mem_singleton]at h;rcases h with h|rfl
 ·exact z u h
 ·exact F
theorem J5 (z:Q []) {k:Int} {l:List Int} (F:l.length≤N+1) (hk:2≤k∧k≤15) (G:3≤k∧k≤6→1≤l.length):Wu Q P N { kind:=k,kids:=l } :=
 ⟨⟨z,fun _ h=>(by cases h),fun _ h=>(by cases h),fun _ h=>(by cases h),⟨DM _,fun _ h=>(by cases h)⟩,F⟩,⟨by show 1≤k;omega,hk.2⟩,fun e=>Ai (show k=1 from e) (by omega),fun h e=>by have:=G h;rw[show l=[]from e]at this;cases this⟩
def RC (Q P:List UInt8→Prop) (N:Nat) (f:C4):Prop:= ∀ts ns x z h,El ts=true→Dx P N ts→F5 Q P N ns→f ts ns=.ok x z h→Dx P N z∧F5 Q P N h∧ ∃n0 m,h=n0++[m]∧x=(n0.length:Int)∧m.kind≠1
def XV (Q P:List UInt8→Prop) (N:Nat) (f:C4):Prop:= ∀ts ns x h z,El ts=true→Dx P N ts→F5 Q P N ns→f ts ns=.ok x h z→Dx P N h∧F5 Q P N z
theorem Ml {m:V} {ts:List AX} {ns:List V} {x:Int} {h:List AX} {z:List V} (F:Dx P N ts) (G:F5 Q P N ns) (I:Wu Q P N m) (J:An m ts ns=.ok x h z):Dx P N h∧F5 Q P N z:=by
 obtain⟨_,rfl,rfl⟩:=D5 J;exact⟨F,G.lay I⟩
theorem J4 {m:V} {ts:List AX} {ns:List V} {x:Int} {z:List AX} {h:List V} (F:Dx P N ts) (G:F5 Q P N ns) (I:Wu Q P N m) (hk:m.kind≠1) (J:An m ts ns=.ok x z h):Dx P N z∧F5 Q P N h∧ ∃n0 m,h=n0++[m]∧x=(n0.length:Int)∧m.kind≠1:=by
 obtain⟨hx,rfl,rfl⟩:=D5 J;exact⟨F,G.lay I,ns,m,rfl,hx,hk⟩
theorem Ms (ae:Q []) (aa:3≤N) {L:C4} (af:RP Q P N L): ∀(f:Nat) (kids:List Int) (M:Bool) (ts:List AX) (ns:List V) (k:List Int×Bool) (z:List AX) (F:List V),Dx P N ts→F5 Q P N ns→CY L f kids M ts ns=.ok k z F→Dx P N z∧F5 Q P N F∧k.1.length≤kids.length+f∧kids.length+1≤k.1.length:=by
 intro f;induction f with
 |zero=>intro kids M ts ns k z F _ _ h;cases h
 |succ f ih=>
  intro kids M ts ns k z F G ag h;rw[CY]at h;obtain⟨x,O,ah,ai,ab⟩:=bind_eq h;clear h;have h:=ab;clear ab;obtain⟨aj,J⟩:=af _ _ _ _ _ G ag ai;have ac:F5 Q P N (ah++[{ kind:=7,kids:=[x] }]):=J.lay (J5 ae (by show 1≤N+1;omega) (by omega) (fun _=>BL _));have W: ∀ {y:Int} {a:Bool} {t:List AX} {n:List V},Dx P N t→F5 Q P N n→PR.ok (kids++[y],a) t n=PR.ok k z F→Dx P N z∧F5 Q P N F∧k.1.length≤kids.length+(f+1)∧kids.length+1≤k.1.length:=by
   intro y a t n G X h;injection h with ak al aa;subst ak al aa;exact⟨G,X,by show(kids++[y]).length≤_;rw[BE,Cd];omega,by show _≤(kids++[y]).length;rw[BE,Cd];omega⟩
  have ad: ∀ {y:Int} {a:Bool} {t:List AX} {n:List V},Dx P N t→F5 Q P N n→CY L f (kids++[y]) a t n=PR.ok k z F→Dx P N z∧F5 Q P N F∧k.1.length≤kids.length+(f+1)∧kids.length+1≤k.1.length:=by
   intro y a t n G X h;obtain⟨am,an,ao,ap⟩:=ih _ _ _ _ _ _ _ G X h;rw[BE,Cd]at ao ap;exact⟨am,an,by omega,by omega⟩
  simp only[]at h;have I:Dx P N (A3 O Cw):=aj.take _;by_cases K:BR O Cw=true
  ·simp only[K,Bool.true_or,if_true]at h;split at h
   ·exact ad I.breaks ac h
   ·exact W I.breaks ac h
  ·have K:BR O Cw=false:=(by simpa using K);simp only[K,Bool.false_or,Bool.false_eq_true,if_false]at h;split at h
   ·split at h
    ·exact ad I.tail.breaks J h
    ·exact W I.tail.breaks J h
   ·exact W I J h
theorem VS (z:Q []) (F:3≤N) {J:C4} (M:RP Q P N J):RP Q P N (GM J):=by
 intro ts ns x aa ab K O h;unfold GM at h;obtain⟨k,ac,ad,W,L⟩:=bind_eq h;clear h;have h:=L;clear L;obtain⟨G,I,hk,ae⟩:=Ms z F M _ _ _ _ _ _ _ _ K.breaks O W;have af:=K.len;rw[List.length_nil]at hk;split at h
 ·split at h
  ·exact Ml G.breaks I (J5 z (by simp) (by omega) (fun _=>BL _)) h
  ·injection h with ag X F;subst X F;exact⟨G.breaks,I⟩
 ·exact Ml G.breaks I (J5 z (by omega) (by omega) (fun _=>by omega)) h
theorem ND (O:Q []) (J:3≤N) {G:C4} (W:RP Q P N G): ∀(f:Nat) (x:Int) (ts:List AX) (ns:List V) (y:Int) (z:List AX) (F:List V),Dx P N ts→F5 Q P N ns→CR G f x ts ns=.ok y z F→Dx P N z∧F5 Q P N F:=by
 intro f;induction f with
 |zero=>intro x ts ns y z F _ _ h;cases h
 |succ f ih=>
  intro x ts ns y z F K L h;rw[CR]at h;have step: ∀(I:Int),2≤I∧I≤15→((G (AG ts.tail) ns).bind fun y ts ns=>CR G f ns.length ts (ns++[{ kind:=I,kids:=[x,y] }]))=.ok y z F→Dx P N z∧F5 Q P N F:=by
   intro I X h;obtain⟨ac,ad,ae,aa,M⟩:=bind_eq h;clear h;have h:=M;clear M;obtain⟨a,b⟩:=W _ _ _ _ _ K.tail.breaks L aa;exact ih _ _ _ _ _ _ a (b.lay (J5 O (by simp;omega) X (fun _=>by simp))) h
  split at h
  ·exact step 4 (by omega) h
  ·split at h
   ·exact step 5 (by omega) h
   ·injection h with af ab J;subst ab J;exact⟨K,L⟩
theorem Vi (I:Q []) (J:3≤N) {z:C4} (F:RP Q P N z):RP Q P N (Fz z):=by
 intro ts ns x O W K L h;unfold Fz at h;obtain⟨X,aa,ab,M,G⟩:=bind_eq h;clear h;have h:=G;clear G;obtain⟨a,b⟩:=F _ _ _ _ _ K L M;exact ND I J F _ _ _ _ _ _ _ a b h
theorem Nf {I:C4} (M:RP Q P N I): ∀(f:Nat) (z:List Int) (ts:List AX) (ns:List V) (k:List Int) (F:List AX) (G:List V),Dx P N ts→F5 Q P N ns→DD I f z ts ns=.ok k F G→Dx P N F∧F5 Q P N G∧k.length+1≤z.length+f∧z.length≤k.length:=by
 intro f;induction f with
 |zero=>intro z ts ns k F G _ _ h;cases h
 |succ f ih=>
  intro z ts ns k F G J K h;rw[DD]at h;split at h
  ·obtain⟨af,ag,ah,O,L⟩:=bind_eq h;clear h;have h:=L;clear L;obtain⟨a,b⟩:=M _ _ _ _ _ J.tail.breaks K O;obtain⟨W,X,aa,ab⟩:=ih _ _ _ _ _ _ a b h;rw[BE,Cd]at aa ab;exact⟨W,X,by omega,by omega⟩
  ·injection h with ac ad ae;subst ac ad ae;exact⟨J,K,by omega,BL _⟩
theorem UY (J:Q []) {b:Bool} {x y:Int} {ts z:List AX} {ns F:List V} (G:Dx P N ts) (I:F5 Q P N ns) (h:FL b x ts ns=.ok y z F):Dx P N z∧F5 Q P N F:=by
 unfold FL at h;split at h
 ·exact Ml G I (J5 J (by simp) (by omega) (fun _=>BL _)) h
 ·injection h with M K L;subst K L;exact⟨G,I⟩
theorem VN (F:Q []) {G:C4} (I:RP Q P N G):RP Q P N (FB G):=by
 intro ts ns x ac ad O W h;unfold FB at h;obtain⟨y,ae,af,X,z⟩:=bind_eq h;clear h;have h:=z;clear z;obtain⟨J,aa⟩:=I _ _ _ _ _ (O.take _) W X;obtain⟨k,ag,ah,ab,z⟩:=bind_eq h;clear h;have h:=z;clear z;obtain⟨K,L,hk,M⟩:=Nf I _ _ _ _ _ _ _ J aa ab;have ai:=J.len;rw[Cd]at hk M;split at h
 ·exact UY F K (L.lay (J5 F (by omega) (by omega) (fun _=>M))) h
 ·exact UY F K L h
def SV (P:List UInt8→Prop) (l:List Rd):Prop:= ∀r∈l,r.op∈Fv∧P r.wd
theorem Ro {t:AX} (h:FA t=true):t.t∈Fv:=by
 unfold FA at h;rw[Bool.and_eq_true]at h;exact List.contains_iff_mem.1 h.2
theorem XS {ts:List AX} (z:Dx P N ts) (h:Nj ts=true) (d:AX):P (ts.headD d).t:=by
 cases ts with
 |nil=>cases h
 |cons w r=>
  unfold Nj at h;rw[Bool.or_eq_true,beq_iff_eq,beq_iff_eq]at h;exact z.w w (List.mem_cons_self ..) h
theorem TK: ∀(f:Nat) (G:List Rd) (ts:List AX) (ns:List V) (l:List Rd) (J:List AX) (K:List V),Dx P N ts→SV P G→Bz f G ts ns=.ok l J K→Dx P N J∧K=ns∧SV P l:=by
 intro f;induction f with
 |zero=>intro G ts ns l J K _ _ h;cases h
 |succ f ih=>
  intro G ts ns l J K I O h;rw[Bz.eq_def]at h;cases ts with
  |nil=>cases h
  |cons t r=>
   simp only[]at h;have W: ∀ {X:Int} {L M:List UInt8},L∈Fv→P M→SV P (G++[⟨X,L,M⟩]):=by
    intro X L M z F x hx;rw[List.mem_append,List.mem_singleton]at hx;rcases hx with hx|rfl
    ·exact O x hx
    ·exact⟨z,F⟩
   split at h
   ·rename_i z;split at h
    ·rename_i F;rw[Bool.and_eq_true]at z;exact ih _ _ _ _ _ _ I.of_cons.tail.tail (W (Ro z.2) (XS I.of_cons.tail F _)) h
    ·exact(CT h).elim
   ·split at h
    ·rename_i z;split at h
     ·rename_i F;exact ih _ _ _ _ _ _ I.of_cons.tail (W (Ro z) (XS I.of_cons F _)) h
     ·exact(CT h).elim
    ·injection h with z F aa;subst z F aa;exact⟨I,rfl,O⟩
theorem Ng {ts:List AX} {ns:List V} {l:List Rd} {z:List AX} {F:List V} (G:Dx P N ts) (h:CW ts ns=.ok l z F):Dx P N z∧F=ns∧SV P l:=TK _ _ _ _ _ _ _ G (fun _ h=>by cases h) h
theorem XJ: ∀(f:Nat) (m:V) (ts:List AX) (ns:List V) (F:V) (G:List AX) (I:List V),Dx P N ts→N2 Q P N m→Ci f m ts ns=.ok F G I→Dx P N G∧I=ns∧N2 Q P N F∧F.kind=m.kind:=by
 intro f;induction f with
 |zero=>intro m ts ns F G I _ _ z;cases z
 |succ f ih=>
  intro m ts ns F G I ac h z;rw[Ci]at z;obtain⟨l,ad,X,ae,aa⟩:=bind_eq z;clear z;have z:=aa;clear aa;obtain⟨L,rfl,af⟩:=Ng ac ae;have M:SV P (m.AK++l):=by
   intro x hx;rw[List.mem_append]at hx;rcases hx with hx|hx
   ·exact h.AK x hx
   ·exact af x hx
  have J: ∀ {l:List (List UInt8)} {s:List UInt8},(∀x∈l,P x)→P s→ ∀x∈l++[s],P x:=by
   intro l s O W x hx;rw[List.mem_append,List.mem_singleton]at hx;rcases hx with hx|rfl
   ·exact O x hx
   ·exact W
  simp only[]at z;cases ad with
  |nil=>cases z
  |cons t r=>
   simp only[]at z;have ab:PR.ok { m with AK:=m.AK++l } (t::r) X=PR.ok F G I→Dx P N G∧I=X∧N2 Q P N F∧F.kind=m.kind:=by
    intro z;injection z with O W ag;subst O W ag;exact⟨L,rfl,⟨h.name,h.AY,h.words,M,h.AS,h.kids⟩,rfl⟩
   split at z
   ·exact ab z
   ·rename_i hk;have K:P t.t:=L.w t (List.mem_cons_self ..) (.inl (by omega));split at z
    ·have hx:=ih _ _ _ _ _ _ L.of_cons (by constructor<;>first|exact h.name|exact h.AS|exact h.kids|exact M|exact J h.words K|exact J h.AY K|exact h.words|exact h.AY) z;exact hx
    ·split at z
     ·have hx:=ih _ _ _ _ _ _ L.of_cons (by constructor<;>first|exact h.name|exact h.AS|exact h.kids|exact M|exact J h.words K|exact J h.AY K|exact h.words|exact h.AY) z;exact hx
     ·split at z
      ·exact ab z
      ·have hx:=ih _ _ _ _ _ _ L.of_cons (by constructor<;>first|exact h.name|exact h.AS|exact h.kids|exact M|exact J h.words K|exact J h.AY K|exact h.words|exact h.AY) z;exact hx
theorem VR (G:Q []):RP Q P N IT:=by
 intro ts ns x W X I J h;unfold IT at h;obtain⟨m,aa,ab,K,z⟩:=bind_eq h;clear h;have h:=z;clear z;obtain⟨L,rfl,M,F⟩:=XJ _ _ _ _ _ _ _ I (⟨G,fun _ h=>(by cases h),fun _ h=>(by cases h),fun _ h=>(by cases h),⟨DM _,fun _ h=>(by cases h)⟩,DM _⟩:N2 Q P N { kind:=1 }) K;split at h
 ·exact(CT h).elim
 ·rename_i O;have F:m.kind=1:=F;exact Ml L J ⟨M,⟨by omega,by omega⟩,fun _=>O,fun h=>by omega⟩ h
theorem RG {f:EO} (z: ∀d,RC Q P N (f d)) (d:Nat):RC Q P N (Bw f d):=by
 intro ts ns x J K F G I h;unfold Bw at h;split at h
 ·cases h
 ·exact z _ _ _ _ _ _ F G I h
theorem Uh {core:EO} (K: ∀d,RC Q P N (core d)) (d:Nat):XV Q P N (Ez core d):=by
 intro ts ns x ag ah L M O h;unfold Ez at h;obtain⟨y,ai,aj,W,z⟩:=bind_eq h;clear h;have h:=z;clear z;obtain⟨X,G,n0,m,rfl,rfl,hk⟩:=RG K d _ _ _ _ _ L M O W;obtain⟨l,ak,al,aa,z⟩:=bind_eq h;clear h;have h:=z;clear z;obtain⟨ab,rfl,ac⟩:=Ng X aa;injection h with am ad ae;subst ad ae;refine⟨ab,fun u I=>?_⟩;unfold Dd at I;obtain⟨i,J,F⟩:=List.mem_iff_getElem.1 I;rw[List.getElem_modify]at F;rw[List.length_modify]at J;split at F
 ·rename_i hx;rw[Int.toNat_natCast]at hx;have af:(n0++[m])[i]=m:=(by simp[←hx]);have:=G m (by simp);rw[af]at F;subst F;exact⟨⟨this.name,this.AY,this.words,ac,this.AS,this.kids⟩,this.kd.1,fun e=>Ai e hk,this.kd.2.2⟩
 ·subst F;exact G _ (List.getElem_mem J)
theorem Og {t:AX} {r:List AX} (z:Dx P N (t::r)) (h:CB t=true):P t.t:=by
 unfold CB at h;rw[Bool.and_eq_true,beq_iff_eq]at h;exact z.w t (List.mem_cons_self ..) (.inl h.1)
theorem XC {F:EO} (J: ∀d,XV Q P N (F d)) (d:Nat) (ts:List AX) (K:Q (XZ ts)) {ns:List V} {x:Int} {G:List AX} {I:List V} (ad:Q []) (L:Dx P N ts) (M:F5 Q P N ns) (h:IW F d ts ns=.ok x G I):Dx P N G∧F5 Q P N I:=by
 unfold IW at h;obtain⟨_,ae,af,O,z⟩:=bind_eq h;clear h;have h:=z;clear z;obtain⟨rfl,rfl⟩:=EV O;obtain⟨_,ag,ah,W,z⟩:=bind_eq h;clear h;have h:=z;clear z;obtain⟨rfl,rfl⟩:=EV W;split at h
 ·rename_i X;obtain⟨y,ai,aj,aa,z⟩:=bind_eq h;clear h;have h:=z;clear z;obtain⟨ab,ac⟩:=J _ _ _ _ _ _ X L.tail.tail.tail.breaks M aa;exact Ml ab ac ⟨⟨K,fun _ h=>(by cases h),fun _ h=>(by cases h),fun _ h=>(by cases h),⟨DM _,fun _ h=>(by cases h)⟩,by simp⟩,⟨by show(1:Int)≤15;omega,by show(15:Int)≤15;omega⟩,fun e=>Ai (show(15:Int)=1 from e) (by omega),fun h=>Ai h.2 (by show¬(15:Int)≤6;omega)⟩ h
 ·exact(CT h).elim
theorem WO (L: ∀s,P s→Q s) (I:Q []) {J:EO} (K: ∀d,XV Q P N (J d)) (d:Nat):RP Q P N (FE J d):=by
 intro ts ns x W X F G h;unfold FE at h;split at h
 ·rename_i M;exact K d _ _ _ _ _ M F G h
 ·split at h
  ·rename_i z;have O:Q (XZ ts):=L _<|by
    unfold IV at z;split at z
    ·simp only[Bool.and_eq_true]at z;exact Og F z.1.1.1
    ·cases z
   unfold Bw at h;split at h
   ·cases h
   ·exact XC K _ ts O I F G h
  ·exact VR I _ _ _ _ _ F G h
theorem UO (G: ∀s,P s→Q s) (h:Q []) (z:3≤N) {F:EO} (I: ∀d,XV Q P N (F d)) (d:Nat):RP Q P N (SZ F d):=VS h z (Vi h z (VN h (WO G h I d)))
theorem XO (I:Q []) (al:3≤N) {Ak:C4} (J:RP Q P N Ak): ∀(f:Nat) (ts:List AX) (ns:List V) (x:Int) (G:List AX) (F:List V),Dx P N ts→F5 Q P N ns→E5 Ak f ts ns=.ok x G F→Dx P N G∧F5 Q P N F∧ ∃n0 m,F=n0++[m]∧x=(n0.length:Int)∧m.kind≠1:=by
 intro f;induction f with
 |zero=>intro ts ns x G F _ _ h;cases h
 |succ f ih=>
  intro ts ns x G F aa ab h;rw[E5]at h;obtain⟨a,am,an,ac,z⟩:=bind_eq h;clear h;have h:=z;clear z;obtain⟨ad,ae⟩:=J _ _ _ _ _ aa ab ac;obtain⟨_,ao,ap,af,z⟩:=bind_eq h;clear h;have h:=z;clear z;obtain⟨rfl,rfl⟩:=EV af;obtain⟨b,aq,ar,ag,z⟩:=bind_eq h;clear h;have h:=z;clear z;obtain⟨K,L⟩:=J _ _ _ _ _ ad.tail ae ag;split at h
  ·obtain⟨c,ah,ai,M,z⟩:=bind_eq h;clear h;have h:=z;clear z;obtain⟨O,W,_⟩:=ih _ _ _ _ _ K.tail L M;exact J4 O W (J5 I (by simp;omega) (by omega) (fun _=>by simp)) (by show(10:Int)≠1;decide) h
  ·split at h
   ·obtain⟨c,ah,ai,M,z⟩:=bind_eq h;clear h;have h:=z;clear z;obtain⟨O,W⟩:=J _ _ _ _ _ K.tail L M;obtain⟨_,aj,ak,X,z⟩:=bind_eq h;clear h;have h:=z;clear z;obtain⟨rfl,rfl⟩:=EV X;exact J4 O.tail W (J5 I (by simp;omega) (by omega) (fun _=>by simp)) (by show(10:Int)≠1;decide) h
   ·obtain⟨_,aj,ak,X,z⟩:=bind_eq h;clear h;have h:=z;clear z;obtain⟨rfl,rfl⟩:=EV X;exact J4 K.tail L (J5 I (by simp;omega) (by omega) (fun _=>by simp)) (by show(10:Int)≠1;decide) h
theorem Ox: ∀(ts:List AX),Dx P N ts→(∀s∈Co ts,P s)∧Dx P N (BQ ts)
 |[],h=>⟨fun _ h=>(by cases h),h⟩
 |t::r,h=>by
  rw[Co,BQ];split
  ·rename_i hk;obtain⟨a,b⟩:=Ox r h.of_cons;refine⟨fun s hs=>?_,b⟩;rw[List.mem_cons]at hs;rcases hs with rfl|hs
   ·exact h.w t (List.mem_cons_self ..) (.inl hk)
   ·exact a s hs
  ·exact⟨fun _ h=>(by cases h),h⟩
theorem VZ (K: ∀s,P s→Q s) {ts:List AX} {ns:List V} {m:V} {L:List AX} {M:List V} (O:Dx P N ts) (h:Ej ts ns=.ok m L M):Dx P N L∧M=ns∧N2 Q P N m∧m.kind=13:=by
 cases ts with
 |nil=>cases h
 |cons t r=>
  unfold Ej at h;simp only[]at h;split at h
  ·rename_i aa;have W:=Og O aa;have X:=O.of_cons.breaks;split at h
   ·split at h
    ·obtain⟨_,ab,ac,F,z⟩:=bind_eq h;clear h;have h:=z;clear z;obtain⟨rfl,rfl⟩:=EV F;obtain⟨a,b⟩:=Ox _ X.tail;injection h with G I J;subst G I J;exact⟨b.tail.breaks.tail,rfl,⟨K _ W,fun _ h=>(by cases h),a,fun _ h=>(by cases h),⟨DM _,fun _ h=>(by cases h)⟩,DM _⟩,rfl⟩
    ·exact(CT h).elim
   ·obtain⟨_,ab,ac,F,z⟩:=bind_eq h;clear h;have h:=z;clear z;obtain⟨rfl,rfl⟩:=EV F;injection h with G I J;subst G I J;exact⟨(X.take _).breaks.tail,rfl,⟨K _ W,fun _ h=>(by cases h),fun _ h=>(by cases h),fun _ h=>(by cases h),⟨DM _,fun _ h=>(by cases h)⟩,DM _⟩,rfl⟩
  ·exact(CT h).elim
theorem SC {ts:List AX} {ns:List V} {s:List UInt8} {z:List AX} {F:List V} (G:Dx P N ts) (h:EI ts ns=.ok s z F):Dx P N z∧F=ns∧P s:=by
 cases ts with
 |nil=>cases h
 |cons t r=>
  unfold EI at h;simp only[]at h;split at h
  ·rename_i hk;injection h with I J K;subst I J K;exact⟨G.of_cons,rfl,G.w t (List.mem_cons_self ..) (.inl hk)⟩
  ·exact(CT h).elim
theorem Vy: ∀(f:Nat) (z:List (List UInt8)) (ts:List AX) (ns:List V) (l:List (List UInt8)) (F:List AX) (G:List V),Dx P N ts→(∀s∈z,P s)→C5 f z ts ns=.ok l F G→Dx P N F∧G=ns∧(∀s∈l,P s)∧l.length+1≤z.length+f:=by
 intro f;induction f with
 |zero=>intro z ts ns l F G _ _ h;cases h
 |succ f ih=>
  intro z ts ns l F G I J h;rw[C5]at h;split at h
  ·obtain⟨s,aa,ab,L,K⟩:=bind_eq h;clear h;have h:=K;clear K;obtain⟨M,rfl,hs⟩:=SC I.tail L;obtain⟨a,b,c,d⟩:=ih _ _ _ _ _ _ M (by
    intro x hx;rw[List.mem_append,List.mem_singleton]at hx;rcases hx with hx|rfl
    ·exact J x hx
    ·exact hs) h
   rw[BE,Cd]at d;exact⟨a,b,c,by omega⟩
  ·injection h with O W X;subst O W X;exact⟨I,rfl,J,by omega⟩
structure XW (Q P:List UInt8→Prop) (N:Nat) (m:V):Prop where
 name:Q m.name
 kd:m.kind=14
 AY: ∀s∈m.AY,P s
 words: ∀s∈m.words,P s
 AK: ∀r∈m.AK,r.op∈Fv∧P r.wd
 AS: ∀p∈m.AS,p.length≤N+1∧ ∀s∈p,P s
theorem Vw {Ak:C4} (af:RP Q P N Ak): ∀(f:Nat) (m:V) (ts:List AX) (ns:List V) (G:V) (L:List AX) (M:List V),Dx P N ts→F5 Q P N ns→XW Q P N m→Ce Ak f m ts ns=.ok G L M→Dx P N L∧F5 Q P N M∧XW Q P N G∧G.AS.length≤m.AS.length+f∧G.kids.length≤m.kids.length+f:=by
 intro f;induction f with
 |zero=>intro m ts ns G L M _ _ _ h;cases h
 |succ f ih=>
  intro m ts ns G L M X aa F h;rw[Ce]at h;split at h
  ·injection h with O J K;subst O J K;exact⟨X,aa,F,by omega,by omega⟩
  ·have ag:Dx P N (if Dn ts Bv=true then ts.tail else ts):=by
    split
    ·exact X.tail
    ·exact X
   obtain⟨s,ao,ap,ah,z⟩:=bind_eq h;clear h;have h:=z;clear z;obtain⟨ac,rfl,hs⟩:=SC ag ah;obtain⟨p,aq,ar,ai,z⟩:=bind_eq h;clear h;have h:=z;clear z;obtain⟨ad,rfl,aj,ak⟩:=Vy _ _ _ _ _ _ _ ac (fun x hx=>by rw[List.mem_singleton]at hx;rw[hx];exact hs) ai;have au:=ac.len;rw[Cd]at ak;obtain⟨_,aw,ax,al,z⟩:=bind_eq h;clear h;have h:=z;clear z;obtain⟨rfl,rfl⟩:=EV al;obtain⟨x,am,an,ab,z⟩:=bind_eq h;clear h;have h:=z;clear z;have W:Dx P N am∧F5 Q P N an:=by
    split at ab
    ·exact af _ _ _ _ _ ad.tail.breaks aa ab
    ·injection ab with O J K;subst J K;exact⟨ad.tail.breaks,aa⟩
   have ae:XW Q P N { m with AS:=m.AS++[p],kids:=m.kids++[x] } :=⟨F.name,F.kd,F.AY,F.words,F.AK,fun q I=>by
    have I:q∈m.AS++[p]:=I;rw[List.mem_append,List.mem_singleton]at I;rcases I with I|rfl
    ·exact F.AS q I
    ·exact⟨by omega,aj⟩⟩
   simp only[]at h;split at h
   ·obtain⟨a,b,c,d,e⟩:=ih _ _ _ _ _ _ W.1.tail.breaks W.2 ae h;simp only[BE,Cd]at d e;exact⟨a,b,c,by omega,by omega⟩
   ·injection h with O J K;subst O J K;exact⟨W.1,W.2,ae,by simp only[BE,Cd];omega,by simp only[BE,Cd];omega⟩
theorem UB (J:Q []) {Ak:C4} (K:RP Q P N Ak) {ts:List AX} {ns:List V} {m:V} {G:List AX} {I:List V} (L:Dx P N ts) (M:F5 Q P N ns) (h:D9 Ak ts ns=.ok m G I):Dx P N G∧F5 Q P N I∧N2 Q P N m∧m.kind=14:=by
 unfold D9 at h;obtain⟨s,ae,af,O,z⟩:=bind_eq h;clear h;have h:=z;clear z;obtain⟨F,rfl,hs⟩:=SC L O;obtain⟨_,ag,ah,W,z⟩:=bind_eq h;clear h;have h:=z;clear z;obtain⟨rfl,rfl⟩:=EV W;obtain⟨ai,aj,ak,X,z⟩:=bind_eq h;clear h;have h:=z;clear z;have al:=F.breaks.tail.len;obtain⟨a,b,c,d,e⟩:=Vw K _ _ _ _ _ _ _ F.breaks.tail.breaks M (⟨J,rfl,fun _ h=>(by cases h),fun x hx=>(by rw[List.mem_singleton]at hx;rw[hx];exact hs),fun _ h=>(by cases h),fun _ h=>(by cases h)⟩:XW Q P N { kind:=14,words:=[s] }) X;obtain⟨_,am,an,aa,z⟩:=bind_eq h;clear h;have h:=z;clear z;obtain⟨rfl,rfl⟩:=EV aa;injection h with ab ac ad;subst ab ac ad;have ao:=F.breaks.tail.breaks.len;simp only[List.length_nil]at d e;exact⟨a.tail,b,⟨c.name,c.AY,c.words,c.AK,⟨by omega,c.AS⟩,by omega⟩,c.kd⟩
theorem PH {t:AX} (h:FG t=true):t.t=F2∨t.t=Bv∨t.t=Oz∨t.t=I5∨t.t=Fy∨t.t=Dp∨t.t=DX:=by
 unfold FG at h;rw[Bool.or_eq_true,Bool.and_eq_true,Bool.and_eq_true]at h;rcases h with⟨_,z⟩|⟨_,z⟩
 ·exact .inr (.inl (eq_of_beq z))
 ·have F:t.t∈FH:=(by simpa using z);have G: ∀s∈FH,s=F2∨s=Bv∨s=Oz∨s=I5∨s=Fy∨s=Dp∨s=DX:=(by decide);exact G _ F
theorem TF (ak: ∀s,P s→Q s) (ab:Q []) (al:3≤N) {Ak:C4} (J:RP Q P N Ak) (s:List UInt8) (hs:s=F2∨s=Bv∨s=Oz∨s=I5∨s=Fy∨s=Dp∨s=DX) {ts:List AX} {ns:List V} {x:Int} {ac:List AX} {K:List V} (L:Dx P N ts) (M:F5 Q P N ns) (h:coreS Ak s ts ns=.ok x ac K):Dx P N ac∧F5 Q P N K∧ ∃n0 m,K=n0++[m]∧x=(n0.length:Int)∧m.kind≠1:=by
 have one: ∀(O:Int) (c:List UInt8),8≤O∧O≤15→((Ak ts ns).bind fun x ts ns=>(AW c ts ns).bind fun _ ts ns=>An { kind:=O,kids:=[x] } ts ns)=.ok x ac K→Dx P N ac∧F5 Q P N K∧ ∃n0 m,K=n0++[m]∧x=(n0.length:Int)∧m.kind≠1:=by
  intro O c am h;obtain⟨y,ae,W,F,z⟩:=bind_eq h;clear h;have h:=z;clear z;obtain⟨G,X⟩:=J _ _ _ _ _ L M F;obtain⟨_,ah,ad,aa,z⟩:=bind_eq h;clear h;have h:=z;clear z;obtain⟨rfl,rfl⟩:=EV aa;exact J4 G.tail X (J5 ab (by simp) (by omega) (fun _=>BL _)) (show O≠1 by omega) h
 unfold coreS at h;split at h
 ·exact one 8 Cv (by omega) h
 ·rename_i W;split at h
  ·exact one 9 DO (by omega) h
  ·rename_i af;split at h
   ·exact XO ab al J _ _ _ _ _ _ L M h
   ·rename_i ai;split at h
    ·obtain⟨m,ae,W,F,z⟩:=bind_eq h;clear h;have h:=z;clear z;obtain⟨G,rfl,I,hk⟩:=VZ ak L F;obtain⟨y,an,af,ag,z⟩:=bind_eq h;clear h;have h:=z;clear z;obtain⟨ao,ap⟩:=J _ _ _ _ _ G M ag;obtain⟨_,ah,ad,aa,z⟩:=bind_eq h;clear h;have h:=z;clear z;obtain⟨rfl,rfl⟩:=EV aa;exact J4 (m:= { m with kids:=[y] }) ao.tail ap ⟨⟨I.name,I.AY,I.words,I.AK,I.AS,by show 1≤N+1;omega⟩,⟨by show 1≤m.kind;omega,by show m.kind≤15;omega⟩,fun e=>Ai (show m.kind=1 from e) (by omega),fun _ e=>by cases e⟩ (by show m.kind≠1;omega) h
    ·rename_i aq;split at h
     ·obtain⟨m,ae,W,F,z⟩:=bind_eq h;clear h;have h:=z;clear z;obtain⟨G,X,I,hk⟩:=UB ab J L M F;exact J4 G X ⟨I,⟨by omega,by omega⟩,fun e=>Ai e (by omega),fun h=>Ai h.2 (by omega)⟩ (by omega) h
     ·rename_i ad;have am:(if s=DX then(12:Int)else if s=Dp then 11 else 0)=11∨(if s=DX then(12:Int)else if s=Dp then 11 else 0)=12:=by
       rcases hs with e|e|e|e|e|e|e
       ·exact Ai e W
       ·exact Ai e af
       ·exact Ai e ai
       ·exact Ai e aq
       ·exact Ai e ad
       ·by_cases aj:s=DX
        ·rw[Ah aj];exact .inr rfl
        ·rw[U aj,Ah e];exact .inl rfl
       ·rw[Ah e];exact .inr rfl
      obtain⟨y,ae,W,F,z⟩:=bind_eq h;clear h;have h:=z;clear z;obtain⟨G,X⟩:=J _ _ _ _ _ L M F;obtain⟨_,an,af,ag,z⟩:=bind_eq h;clear h;have h:=z;clear z;obtain⟨rfl,rfl⟩:=EV ag;obtain⟨ax,ay,ai,ar,z⟩:=bind_eq h;clear h;have h:=z;clear z;obtain⟨au,aw⟩:=J _ _ _ _ _ G.tail X ar;obtain⟨_,ah,ad,aa,z⟩:=bind_eq h;clear h;have h:=z;clear z;obtain⟨rfl,rfl⟩:=EV aa;exact J4 au.tail aw (J5 ab (by simp;omega) (by omega) (fun _=>by simp)) (by show(if s=DX then(12:Int)else if s=Dp then 11 else 0)≠1;omega) h
theorem Tn (z: ∀s,P s→Q s) (F:Q []) (G:3≤N) {Ak:EO} (I: ∀d,RP Q P N (Ak d)) (d:Nat):RC Q P N (Fh Ak d):=by
 intro ts ns x M O J K L h;cases ts with
 |nil=>cases h
 |cons t r=>
  unfold Fh at h;simp only[]at h;split at h
  ·cases h
  ·exact TF z F G (I d) _ (PH J) K.of_cons L h
theorem Qg (h: ∀s,P s→Q s) (z:Q []) (F:3≤N): ∀f d,RC Q P N (core f d)
 |0,_=>fun _ _ _ _ _ _ _ _ G=>by cases G
 |f+1,d=>Tn h z F (UO h z F (Uh (Qg h z F f))) d
theorem RO (h: ∀s,P s→Q s) (z:Q []) (F:3≤N) {ts:List AX} (I:Dx P N ts):F5 Q P N (Io ts).ns:=by
 have none:F5 Q P N []:=fun m J=>by cases J
 have G:=I.breaks;unfold Io;cases K:AG ts with
 |nil=>exact none
 |cons t r=>
  rw[K]at G;simp only[];split
  ·exact none
  ·cases L:Ak ts.length 0 (t::r) []with
   |bad a e=>exact none
   |ok x M W=>
    have O:=(UO h z F (Uh (Qg h z F ts.length)) 0 _ _ _ _ _ G none L).2;cases M with
    |nil=>exact none
    |cons u q=>
     simp only[];split
     ·exact none
     ·split
      ·exact none
      ·exact O
theorem Mc (z: ∀s,P s→Q s) (F:Q []) {s:List UInt8} (G: ∀ts,Fp s=.ok ts→ ∀t∈ts,t.k=1∨t.k=3→P t.t):F5 Q P 402 (B9 s).ns:=by
 unfold B9;cases h:Fp s with
 |err a e=>exact fun m I=>by cases I
 |ok ts=>exact RO z F (by decide) ⟨by have:=(Gs h).2.len;omega,G ts h⟩
theorem QD (s:List UInt8):F5 (fun _=>True) (fun x=>x.length≤4096) 402 (B9 s).ns:=by
 refine Mc (fun _ _=>trivial) trivial fun ts z t F hk=>?_
 rcases(Gs z).2.w t F with h|h
 ·have:=h.1;omega
 ·exact h.len
end
section
open Lx
theorem join_le: ∀p:List (List UInt8),(∀s∈p,s.length≤4096)→(Ck p).length≤p.length*4099
 |[],_=>DM _
 |[s],h=>by
  have:=h s (List.mem_cons_self ..);show s.length≤1*4099;omega
 |s::t::r,h=>by
  have F:=h s (List.mem_cons_self ..);have z:=join_le (t::r) fun x hx=>h x (List.mem_cons_of_mem _ hx)
  show(s++[32,124,32]++Ck (t::r)).length≤_;simp only[BE,BP,List.length_nil]at z⊢;omega
theorem Sn: ∀s∈Fv,s.length≤2∧10∉s:=by decide
theorem VH {l:List V} (G:F5 (fun _=>True) (fun x=>x.length≤4096) 402 l):Wn l:=by
 intro n I;have h:=G n I;refine⟨by have:=h.kids;omega,by have:=h.AS.1;omega,⟨fun s hs=>by have:=h.words s hs;omega,fun p J=>?_,fun r K=>?_⟩⟩
 ·obtain⟨z,F⟩:=h.AS.2 p J;have:=join_le p F;omega
 ·obtain⟨z,F⟩:=h.AK r K;have:=(Sn _ z).1;omega
theorem PT (s:List UInt8):Wn (B9 s).ns:=VH (QD s)
end
end Go.Proofs.YtdhfhphbkfgamaaGreat
