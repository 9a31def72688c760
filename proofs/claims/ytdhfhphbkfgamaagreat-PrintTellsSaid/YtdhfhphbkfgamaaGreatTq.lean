/- A part. -/
import Derived.Test.YtdhfhphbkfgamaaGreatPv
import Derived.Test.YtdhfhphbkfgamaaGreatTo
set_option maxRecDepth 100000
set_option linter.all false
set_option maxHeartbeats 0
namespace Go.Proofs.YtdhfhphbkfgamaaGreat
open Go.RowKit Lx Proofs.Tryz
def Xj(l:List V):Prop:=∀n∈l,n.kids.length<=100000/\n.AT.length<=100000/\Qn n
theorem LU:∀(r:List V) (pre:List V) (h G:List Nat),h.length=pre.length->(∀i,i<h.length->h.getD i 0<=i)->Fs r h=some G->
  ∀j (F:j<r.length),∀k∈r[j].kids,(k= -1/\r[j].kind=14)\/(0<=k/\k<pre.length+j)
 |[],_,_,_,_,_,_,j,F=>by simp at F
 |n::r,pre,h,G,J,K,z,j,F=>by
  rw[Fs]at z;cases hk:Ef h (n.kind==14) n.kids.reverse h.length with
  |none=>rw[hk]at z;cases z
  |some b=>
   rw[hk]at z;obtain⟨M,N⟩:=Jg K _ _ _ (BN _) hk;cases j with
   |zero=>
    intro k I;rcases N k (List.mem_reverse.2 I)with⟨O,W⟩|e
    ·exact .inl ⟨O,eq_of_beq W⟩
    ·exact .inr (by rw[J]at e;omega)
   |succ j=>
    have X:∀i,i<(h++[b]).length->(h++[b]).getD i 0<=i:=by
     intro i aa;rw[BG,Cj]at aa;by_cases L:i<h.length
     ·rw[EK,Gx L,<-EK];exact K i L
     ·obtain rfl:i=h.length:=by omega
      rw[EK,Ig (BN _),Nat.sub_self];exact M
    have:=LU r (pre++[n]) (h++[b]) G (by simp[J]) X z j (by simpa using F);intro k I;rcases this k (by simpa using I)with e|e
    ·exact .inl (by simpa using e)
    ·refine .inr ?_;rw[BG,Cj]at e;omega
theorem Vu{l:List V}(z:EI l=true)(F:Xj l):Cy l/\1<=l.length:=by
 unfold EI at z;rw[CN,CN,Di,Di]at z;obtain⟨⟨K,L⟩,I⟩:=z;cases J:Fs l []with
 |none=>rw[J]at I;cases I
 |some M=>
  have hk:=LU l [] [] M rfl (fun i G=>by simp at G) J;refine⟨⟨⟨fun i G k N=>?_,fun n h=>(F n h).1,L⟩,fun n h=>(F n h).2.2,fun n h=>(F n h).2.1⟩,K⟩;have:=hk i G k N;simpa using this
theorem MA(l:List V)(v:Value)(w:World)(z:Dj w.heap.size w v l)(aK:Xj l):
  Calls prog 6 #[v] w fun e w'=>e=.returned (sv (E6 l))/\w.grownBy w' none:=by
 obtain⟨n0,am⟩:=U w.heap.size;rw[am]at z;obtain⟨an,ao,rfl,a5⟩:=z.form;have ae:=Z (Qv n0 l _ w z);have H:=Z z;have h:=Z am;clear z am;by_cases L:EI l=true
 ·obtain⟨ap,a6⟩:=Vu L aK;obtain⟨J,aB⟩:∃J,l.length=J+1:=⟨l.length-1,by omega⟩;have a7:(l.length:Int)-1=(J:Int):=(by omega);have a8:(l.length:Int)<=300:=(by have:=ap.ln;omega);have aL:=Z ap;have aM:=Z aB;obtain⟨s,hs⟩:=U (BQ [] (Ay l l.length J));have M:E6 l=if 4096<s.length then []else if(CD s).e=0/\(CD s).ns=l then s else []:=by
   unfold E6;rw[Ai L];simp only[];rw[show l.length-1=J by omega,hs]
  have G:=Z M;have aN:=Z hs;rw[L]at ae;clear ap aB M hs;unfold sv;go_enter func6,ntmps6;go_wp2_with fail;refine ae.out.mono ?_;rintro e N ⟨rfl,I⟩;have K:=Y.new N 41 #[.slice an l.length ao,.pointer none,.slice none 0 0];have af:=Ev N (.cells #[.slice an l.length ao,.pointer none,.slice none 0 0] 41) none;have aq:=Dj.pf H.out (PF.AL (n0:=n0) (BY I af));obtain⟨O,ar⟩:=U (N.alloc (.cells #[.slice an l.length ao,.pointer none,.slice none 0 0] 41));rw[ar]at K aq af;obtain⟨ag,ah⟩:=U N.heap.size;rw[ah]at K;have aC:n0<=ag:=(by rw[<-h.out,<-ah];exact I.size);have W:CC n0 O ag l []:=⟨_,_,_,⟨aC,K,World.ownsRow_nil _ _ _ _,by simp[Value.ownBlock]⟩,.inl rfl,aq,by simp⟩;have aO:=Z W;have aP:=Z ar;have aQ:=Z ah;have aD:Below n0 w O:=(by rw[<-h.out];exact DI (BY I af) (BN _));have aE:=Z aD;have aR:n0<=O.heap.size:=E0 aC (Nat.le_of_lt (Y.lt K));have aS:=Z aR;have aT:=Y.lt K;clear K af aq ar ah W aD I;go_upto_region 4 with(fail);rw[aP.out,aQ.out];go_wp2_with fail;refine(Ng n0 ag l aL.out l.length J (by rw[Nat.min_self,aM.out];omega) [] O aO.out).mono ?_;rintro e aF ⟨rfl,au,aw⟩;rw[aN.out]at au;have aU:=Z au;have aG:Below n0 w aF:=aE.out.trans (S9 aw aS.out);have aV:=Z aG;clear au aG aT;have a9:=Z (Dj.pf (Dj.pf H.out (by
   have:=aE.out;exact(⟨this.os,this.tape,this.output,this.size,fun k hk a'=>this.block k (by rw[h.out]at hk;exact hk)⟩:PF n0 w O))) aw)
  clear aw;have aH:=Z (S5 n0 ag l s aF aU.out);unfold C3 sv at aH;go_wp2_with fail;refine aH.out.mono ?_;rintro e aW ⟨rfl,aI⟩;have ax:=Z (aV.out.trans aI);clear aI;have ba:=sz s;by_cases ai:4096<s.length
  ·have aX:decide ((4096:Int)<(s.length:Int))=true:=Au (by omega);go_wp2_with fail;go_ret;exact⟨by rw[G.out,Ai ai];rfl,FU (by rw[h.out];exact ax.out)⟩
  ·have aX:decide ((4096:Int)<(s.length:Int))=false:=As (by omega);have ay:=Z (MP s aW (by omega));unfold FH sv at ay;obtain⟨P,W⟩:=U (CD s);rw[W]at ay G;clear W;go_wp2_with fail;refine ay.out.mono ?_;rintro e aj ⟨aY,rfl,X,_,az⟩;have F:Below n0 w aj:=ax.out.trans (DI az (by have:=ax.out.size;rw[<-h.out];exact this));have aa:=Z F;by_cases ak:P.e=0
   ·have aZ:(P.e !=0)=false:=(by simp[ak]);have aJ:Dj n0 aj _ l:=Dj.pf H.out (⟨F.os,F.tape,F.output,F.size,fun k hk _=>F.block k (by rw[h.out]at hk;exact hk)⟩:PF n0 w aj);have al:=Z (Qk n0 l P.ns _ aY aj aJ X.OL);obtain⟨a0,a1,rfl,_⟩:=(X.OL (n0:=n0)).form;clear X az F aJ;by_cases ab:l=P.ns
    ·rw[Au ab]at al;have a2:=Z ab;clear ab;go_wp2_with fail;refine al.out.mono ?_;rintro e a3 ⟨rfl,ac⟩;have ad:=aa.out.trans (DI ac (by have:=aa.out.size;rw[<-h.out];exact this));have aA:=Z ad;clear ac ad;go_wp2_with fail;go_ret;exact⟨by rw[G.out,AP ai,Ai ⟨ak,a2.out.symm⟩];rfl,FU (by rw[h.out];exact aA.out)⟩
    ·rw[As ab]at al;go_wp2_with fail;refine al.out.mono ?_;rintro e a3 ⟨rfl,ac⟩;have ad:=aa.out.trans (DI ac (by have:=aa.out.size;rw[<-h.out];exact this));have aA:=Z ad;clear ac ad;go_wp2_with fail;go_ret;exact⟨by rw[G.out,AP ai,AP (fun z=>ab z.2.symm)];rfl,FU (by rw[h.out];exact aA.out)⟩
   ·have aZ:(P.e !=0)=true:=(by simpa using ak);obtain⟨a0,a1,rfl,_⟩:=(X.OL (n0:=n0)).form;clear X az F;go_wp2_with fail;go_ret;exact⟨by rw[G.out,AP ai,AP (fun z=>ak z.1)];rfl,FU (by rw[h.out];exact aa.out)⟩
 ·have M:E6 l=[]:=(by unfold E6;rw[AP L]);rw[show EI l=false by simpa using L]at ae;have G:=Z M;clear M;unfold sv;go_enter func6,ntmps6;go_wp2_with fail;refine ae.out.mono ?_;rintro e N ⟨rfl,I⟩;have a4:=Z I;clear I;go_wp2_with fail;go_ret;exact⟨by rw[G.out];rfl,a4.out⟩
section
open Lx Proofs.Tryz
structure EF(P:List UInt8->Prop)(N:Nat)(ts:List AY):Prop where
 len:ts.length<N
 w:∀t∈ts,t.k=1\/t.k=3->P t.t
structure O1(Q P:List UInt8->Prop)(N:Nat)(m:V):Prop where
 name:Q m.name
 AZ:∀s∈m.AZ,P s
 words:∀s∈m.words,P s
 AK:∀r∈m.AK,r.op∈GJ/\P r.wd
 AT:m.AT.length<=N+1/\ ∀p∈m.AT,p.length<=N+1/\ ∀s∈p,P s
 kids:m.kids.length<=N+1
def NK(m:V):Prop:=(1<=m.kind/\m.kind<=15)/\(m.kind=1->m.AZ.length+m.words.length+m.AK.length≠0)/\(3<=m.kind/\m.kind<=6->m.kids≠[])
structure Xt(Q P:List UInt8->Prop)(N:Nat)(m:V):Prop extends O1 Q P N m where
 kd:NK m
def GS(Q P:List UInt8->Prop)(N:Nat)(ns:List V):Prop:=∀m∈ns,Xt Q P N m
variable {Q P:List UInt8->Prop}{N:Nat}
def RP(Q P:List UInt8->Prop)(N:Nat)(f:DC):Prop:=∀ts ns x h z,EF P N ts->GS Q P N ns->f ts ns=.ok x h z->EF P N h/\GS Q P N z
theorem EF.tail{ts:List AY}(h:EF P N ts):EF P N ts.tail:=
 ⟨by have:=h.len;rw[List.length_tail];omega,fun t z=>h.w t (List.mem_of_mem_tail z)⟩
theorem EF.of_cons{t:AY}{r:List AY}(h:EF P N (t::r)):EF P N r:=h.tail
theorem EF.breaks:∀ {ts:List AY},EF P N ts->EF P N (AG ts)
 |[],h=>h
 |t::r,h=>by
  rw[AG];split
  ·exact EF.breaks h.of_cons
  ·exact h
theorem EF.take{ts:List AY}(h:EF P N ts)(s:List UInt8):EF P N (A5 ts s):=by
 unfold A5;split
 ·exact h.tail
 ·exact h
theorem Ej{s:List UInt8}{ts:List AY}{ns:List V}{u:Unit}{z:List AY}{F:List V}(h:AX s ts ns=.ok u z F):z=ts.tail/\F=ns:=by
 unfold AX at h;split at h
 ·injection h with _ G I;exact⟨G.symm,I.symm⟩
 ·exact(CX h).elim
theorem GS.lay{ns:List V}{m:V}(z:GS Q P N ns)(F:Xt Q P N m):GS Q P N (ns++[m]):=by
 intro u h;rw[ID,DA]at h;rcases h with h|rfl
 ·exact z u h
 ·exact F
theorem LY(z:Q []){k:Int}{l:List Int}(F:l.length<=N+1)(hk:2<=k/\k<=15)(G:3<=k/\k<=6->1<=l.length):Xt Q P N { kind:=k,kids:=l } :=
 ⟨⟨z,fun _ h=>(by cases h),fun _ h=>(by cases h),fun _ h=>(by cases h),⟨DD _,fun _ h=>(by cases h)⟩,F⟩,⟨by show 1<=k;omega,hk.2⟩,fun e=>Aj (show k=1 from e) (by omega),fun h e=>by have:=G h;rw[show l=[]from e]at this;cases this⟩
def RC(Q P:List UInt8->Prop)(N:Nat)(f:DC):Prop:=∀ts ns x z h,E7 ts=true->EF P N ts->GS Q P N ns->f ts ns=.ok x z h->EF P N z/\GS Q P N h/\ ∃n0 m,h=n0++[m]/\x=(n0.length:Int)/\m.kind≠1
def Xy(Q P:List UInt8->Prop)(N:Nat)(f:DC):Prop:=∀ts ns x h z,E7 ts=true->EF P N ts->GS Q P N ns->f ts ns=.ok x h z->EF P N h/\GS Q P N z
theorem NW{m:V}{ts:List AY}{ns:List V}{x:Int}{h:List AY}{z:List V}(F:EF P N ts)(G:GS Q P N ns)(I:Xt Q P N m)(J:Ao m ts ns=.ok x h z):EF P N h/\GS Q P N z:=by
 obtain⟨_,rfl,rfl⟩:=EM J;exact⟨F,G.lay I⟩
theorem LK{m:V}{ts:List AY}{ns:List V}{x:Int}{z:List AY}{h:List V}(F:EF P N ts)(G:GS Q P N ns)(I:Xt Q P N m)(hk:m.kind≠1)(J:Ao m ts ns=.ok x z h):EF P N z/\GS Q P N h/\ ∃n0 m,h=n0++[m]/\x=(n0.length:Int)/\m.kind≠1:=by
 obtain⟨hx,rfl,rfl⟩:=EM J;exact⟨F,G.lay I,ns,m,rfl,hx,hk⟩
theorem Nq(ad:Q [])(X:3<=N){L:DC}(ae:RP Q P N L):∀(f:Nat) (kids:List Int) (M:Bool) (ts:List AY) (ns:List V) (k:List Int×Bool) (z:List AY) (F:List V),EF P N ts->GS Q P N ns->Cd L f kids M ts ns=.ok k z F->EF P N z/\GS Q P N F/\k.1.length<=kids.length+f/\kids.length+1<=k.1.length:=by
 intro f;induction f with
 |zero=>intro kids M ts ns k z F _ _ h;cases h
 |succ f ih=>
  intro kids M ts ns k z F G af h;rw[Cd]at h;obtain⟨x,t1,ag,ah,aa⟩:=bind_eq h;clear h;have h:=aa;clear aa;obtain⟨ai,J⟩:=ae _ _ _ _ _ G af ah;have ab:GS Q P N (ag++[{ kind:=7,kids:=[x] }]):=J.lay (LY ad (by show 1<=N+1;omega) (by omega) (fun _=>BN _));have O:∀ {y:Int} {a:Bool} {t:List AY} {n:List V},EF P N t->GS Q P N n->PR.ok (kids++[y],a) t n=PR.ok k z F->EF P N z/\GS Q P N F/\k.1.length<=kids.length+(f+1)/\kids.length+1<=k.1.length:=by
   intro y a t n G W h;injection h with aj ak X;subst aj ak X;exact⟨G,W,by show(kids++[y]).length<=_;rw[BG,Cj];omega,by show _<=(kids++[y]).length;rw[BG,Cj];omega⟩
  have ac:∀ {y:Int} {a:Bool} {t:List AY} {n:List V},EF P N t->GS Q P N n->Cd L f (kids++[y]) a t n=PR.ok k z F->EF P N z/\GS Q P N F/\k.1.length<=kids.length+(f+1)/\kids.length+1<=k.1.length:=by
   intro y a t n G W h;obtain⟨al,am,an,ao⟩:=ih _ _ _ _ _ _ _ G W h;rw[BG,Cj]at an ao;exact⟨al,am,by omega,by omega⟩
  simp only[]at h;have I:EF P N (A5 t1 C9):=ai.take _;by_cases K:BT t1 C9=true
  ·simp only[K,Bool.true_or,if_true]at h;split at h
   ·exact ac I.breaks ab h
   ·exact O I.breaks ab h
  ·have K:BT t1 C9=false:=(by simpa using K);simp only[K,Bool.false_or,Bool.false_eq_true,if_false]at h;split at h
   ·split at h
    ·exact ac I.tail.breaks J h
    ·exact O I.tail.breaks J h
   ·exact O I J h
theorem WW(z:Q [])(F:3<=N){J:DC}(M:RP Q P N J):RP Q P N (Gm J):=by
 intro ts ns x aa ab K O h;unfold Gm at h;obtain⟨k,t1,ac,W,L⟩:=bind_eq h;clear h;have h:=L;clear L;obtain⟨G,I,hk,ad⟩:=Nq z F M _ _ _ _ _ _ _ _ K.breaks O W;have ae:=K.len;rw[CU]at hk;split at h
 ·split at h
  ·exact NW G.breaks I (LY z (by simp) (by omega) (fun _=>BN _)) h
  ·injection h with af X F;subst X F;exact⟨G.breaks,I⟩
 ·exact NW G.breaks I (LY z (by omega) (by omega) (fun _=>by omega)) h
theorem OD(O:Q [])(J:3<=N){G:DC}(W:RP Q P N G):∀(f:Nat) (x:Int) (ts:List AY) (ns:List V) (y:Int) (z:List AY) (F:List V),EF P N ts->GS Q P N ns->CY G f x ts ns=.ok y z F->EF P N z/\GS Q P N F:=by
 intro f;induction f with
 |zero=>intro x ts ns y z F _ _ h;cases h
 |succ f ih=>
  intro x ts ns y z F K L h;rw[CY]at h;have step:∀(I:Int),2<=I/\I<=15->((G (AG ts.tail) ns).bind fun y ts ns=>CY G f ns.length ts (ns++[{ kind:=I,kids:=[x,y] }]))=.ok y z F->EF P N z/\GS Q P N F:=by
   intro I X h;obtain⟨ac,t1,ad,aa,M⟩:=bind_eq h;clear h;have h:=M;clear M;obtain⟨a,b⟩:=W _ _ _ _ _ K.tail.breaks L aa;exact ih _ _ _ _ _ _ a (b.lay (LY O (by simp;omega) X (fun _=>by simp))) h
  split at h
  ·exact step 4 (by omega) h
  ·split at h
   ·exact step 5 (by omega) h
   ·injection h with ae ab J;subst ab J;exact⟨K,L⟩
theorem Vi(I:Q [])(J:3<=N){z:DC}(F:RP Q P N z):RP Q P N (GV z):=by
 intro ts ns x O W K L h;unfold GV at h;obtain⟨X,t1,aa,M,G⟩:=bind_eq h;clear h;have h:=G;clear G;obtain⟨a,b⟩:=F _ _ _ _ _ K L M;exact OD I J F _ _ _ _ _ _ _ a b h
theorem NS{I:DC}(M:RP Q P N I):∀(f:Nat) (z:List Int) (ts:List AY) (ns:List V) (k:List Int) (F:List AY) (G:List V),EF P N ts->GS Q P N ns->DK I f z ts ns=.ok k F G->EF P N F/\GS Q P N G/\k.length+1<=z.length+f/\z.length<=k.length:=by
 intro f;induction f with
 |zero=>intro z ts ns k F G _ _ h;cases h
 |succ f ih=>
  intro z ts ns k F G J K h;rw[DK]at h;split at h
  ·obtain⟨af,t1,ag,O,L⟩:=bind_eq h;clear h;have h:=L;clear L;obtain⟨a,b⟩:=M _ _ _ _ _ J.tail.breaks K O;obtain⟨W,X,aa,ab⟩:=ih _ _ _ _ _ _ a b h;rw[BG,Cj]at aa ab;exact⟨W,X,by omega,by omega⟩
  ·injection h with ac ad ae;subst ac ad ae;exact⟨J,K,by omega,BN _⟩
theorem VN(J:Q []){b:Bool}{x y:Int}{ts z:List AY}{ns F:List V}(G:EF P N ts)(I:GS Q P N ns)(h:Ff b x ts ns=.ok y z F):EF P N z/\GS Q P N F:=by
 unfold Ff at h;split at h
 ·exact NW G I (LY J (by simp) (by omega) (fun _=>BN _)) h
 ·injection h with M K L;subst K L;exact⟨G,I⟩
theorem Va(F:Q []){G:DC}(I:RP Q P N G):RP Q P N (FM G):=by
 intro ts ns x ac ad O W h;unfold FM at h;obtain⟨y,t1,ae,X,z⟩:=bind_eq h;clear h;have h:=z;clear z;obtain⟨J,aa⟩:=I _ _ _ _ _ (O.take _) W X;obtain⟨k,t2,af,ab,z⟩:=bind_eq h;clear h;have h:=z;clear z;obtain⟨K,L,hk,M⟩:=NS I _ _ _ _ _ _ _ J aa ab;have ag:=J.len;rw[Cj]at hk M;split at h
 ·exact VN F K (L.lay (LY F (by omega) (by omega) (fun _=>M))) h
 ·exact VN F K L h
def RQ(P:List UInt8->Prop)(l:List Rd):Prop:=∀r∈l,r.op∈GJ/\P r.wd
theorem Sq{t:AY}(h:FO t=true):t.t∈GJ:=by
 unfold FO at h;rw[CN]at h;exact List.contains_iff_mem.1 h.2
theorem Xv{ts:List AY}(z:EF P N ts)(h:OK ts=true)(d:AY):P (ts.headD d).t:=by
 cases ts with
 |nil=>cases h
 |cons w r=>
  unfold OK at h;rw[GX,DQ,DQ]at h;exact z.w w (En ..) h
theorem Uc:∀(f:Nat) (G:List Rd) (ts:List AY) (ns:List V) (l:List Rd) (J:List AY) (K:List V),EF P N ts->RQ P G->B2 f G ts ns=.ok l J K->EF P N J/\K=ns/\RQ P l:=by
 intro f;induction f with
 |zero=>intro G ts ns l J K _ _ h;cases h
 |succ f ih=>
  intro G ts ns l J K I O h;rw[B2.eq_def]at h;cases ts with
  |nil=>cases h
  |cons t r=>
   simp only[]at h;have W:∀ {X:Int} {L M:List UInt8},L∈GJ->P M->RQ P (G++[⟨X,L,M⟩]):=by
    intro X L M z F x hx;rw[ID,DA]at hx;rcases hx with hx|rfl
    ·exact O x hx
    ·exact⟨z,F⟩
   split at h
   ·rename_i z;split at h
    ·rename_i F;rw[CN]at z;exact ih _ _ _ _ _ _ I.of_cons.tail.tail (W (Sq z.2) (Xv I.of_cons.tail F _)) h
    ·exact(CX h).elim
   ·split at h
    ·rename_i z;split at h
     ·rename_i F;exact ih _ _ _ _ _ _ I.of_cons.tail (W (Sq z) (Xv I.of_cons F _)) h
     ·exact(CX h).elim
    ·injection h with z F aa;subst z F aa;exact⟨I,rfl,O⟩
theorem NQ{ts:List AY}{ns:List V}{l:List Rd}{z:List AY}{F:List V}(G:EF P N ts)(h:Cb ts ns=.ok l z F):EF P N z/\F=ns/\RQ P l:=Uc _ _ _ _ _ _ _ G (fun _ h=>by cases h) h
theorem XE:∀(f:Nat) (m:V) (ts:List AY) (ns:List V) (F:V) (G:List AY) (I:List V),EF P N ts->O1 Q P N m->Co f m ts ns=.ok F G I->EF P N G/\I=ns/\O1 Q P N F/\F.kind=m.kind:=by
 intro f;induction f with
 |zero=>intro m ts ns F G I _ _ z;cases z
 |succ f ih=>
  intro m ts ns F G I ac h z;rw[Co]at z;obtain⟨l,t1,X,ad,aa⟩:=bind_eq z;clear z;have z:=aa;clear aa;obtain⟨L,rfl,ae⟩:=NQ ac ad;have M:RQ P (m.AK++l):=by
   intro x hx;rw[ID]at hx;rcases hx with hx|hx
   ·exact h.AK x hx
   ·exact ae x hx
  have J:∀ {l:List (List UInt8)} {s:List UInt8},(∀x∈l,P x)->P s-> ∀x∈l++[s],P x:=by
   intro l s O W x hx;rw[ID,DA]at hx;rcases hx with hx|rfl
   ·exact O x hx
   ·exact W
  simp only[]at z;cases t1 with
  |nil=>cases z
  |cons t r=>
   simp only[]at z;have ab:PR.ok { m with AK:=m.AK++l } (t::r) X=PR.ok F G I->EF P N G/\I=X/\O1 Q P N F/\F.kind=m.kind:=by
    intro z;injection z with O W af;subst O W af;exact⟨L,rfl,⟨h.name,h.AZ,h.words,M,h.AT,h.kids⟩,rfl⟩
   split at z
   ·exact ab z
   ·rename_i hk;have K:P t.t:=L.w t (En ..) (.inl (by omega));split at z
    ·have hx:=ih _ _ _ _ _ _ L.of_cons (by constructor<;>first|exact h.name|exact h.AT|exact h.kids|exact M|exact J h.words K|exact J h.AZ K|exact h.words|exact h.AZ) z;exact hx
    ·split at z
     ·have hx:=ih _ _ _ _ _ _ L.of_cons (by constructor<;>first|exact h.name|exact h.AT|exact h.kids|exact M|exact J h.words K|exact J h.AZ K|exact h.words|exact h.AZ) z;exact hx
     ·split at z
      ·exact ab z
      ·have hx:=ih _ _ _ _ _ _ L.of_cons (by constructor<;>first|exact h.name|exact h.AT|exact h.kids|exact M|exact J h.words K|exact J h.AZ K|exact h.words|exact h.AZ) z;exact hx
theorem Wf(G:Q []):RP Q P N Iz:=by
 intro ts ns x W X I J h;unfold Iz at h;obtain⟨m,t1,aa,K,z⟩:=bind_eq h;clear h;have h:=z;clear z;obtain⟨L,rfl,M,F⟩:=XE _ _ _ _ _ _ _ I (⟨G,fun _ h=>(by cases h),fun _ h=>(by cases h),fun _ h=>(by cases h),⟨DD _,fun _ h=>(by cases h)⟩,DD _⟩:O1 Q P N { kind:=1 }) K;split at h
 ·exact(CX h).elim
 ·rename_i O;have F:m.kind=1:=F;exact NW L J ⟨M,⟨by omega,by omega⟩,fun _=>O,fun h=>by omega⟩ h
theorem Ss{f:Eg}(z:∀d,RC Q P N (f d))(d:Nat):RC Q P N (B1 f d):=by
 intro ts ns x J K F G I h;unfold B1 at h;split at h
 ·cases h
 ·exact z _ _ _ _ _ _ F G I h
theorem Ur{core:Eg}(K:∀d,RC Q P N (core d))(d:Nat):Xy Q P N (FI core d):=by
 intro ts ns x ag ah L M O h;unfold FI at h;obtain⟨y,t1,ai,W,z⟩:=bind_eq h;clear h;have h:=z;clear z;obtain⟨X,G,n0,m,rfl,rfl,hk⟩:=Ss K d _ _ _ _ _ L M O W;obtain⟨l,t2,aj,aa,z⟩:=bind_eq h;clear h;have h:=z;clear z;obtain⟨ab,rfl,ac⟩:=NQ X aa;injection h with ak ad ae;subst ad ae;refine⟨ab,fun u I=>?_⟩;unfold Dq at I;obtain⟨i,J,F⟩:=List.mem_iff_getElem.1 I;rw[List.getElem_modify]at F;rw[List.length_modify]at J;split at F
 ·rename_i hx;rw[Int.toNat_natCast]at hx;have af:(n0++[m])[i]=m:=(by simp[<-hx]);have:=G m (by simp);rw[af]at F;subst F;exact⟨⟨this.name,this.AZ,this.words,ac,this.AT,this.kids⟩,this.kd.1,fun e=>Aj e hk,this.kd.2.2⟩
 ·subst F;exact G _ (Cp J)
theorem PU{t:AY}{r:List AY}(z:EF P N (t::r))(h:CE t=true):P t.t:=by
 unfold CE at h;rw[CN,DQ]at h;exact z.w t (En ..) (.inl h.1)
theorem Xr{F:Eg}(J:∀d,Xy Q P N (F d))(d:Nat)(ts:List AY)(K:Q (Xx ts)){ns:List V}{x:Int}{G:List AY}{I:List V}(ad:Q [])(L:EF P N ts)(M:GS Q P N ns)(h:I0 F d ts ns=.ok x G I):EF P N G/\GS Q P N I:=by
 unfold I0 at h;obtain⟨_,t1,ae,O,z⟩:=bind_eq h;clear h;have h:=z;clear z;obtain⟨rfl,rfl⟩:=Ej O;obtain⟨_,t2,af,W,z⟩:=bind_eq h;clear h;have h:=z;clear z;obtain⟨rfl,rfl⟩:=Ej W;split at h
 ·rename_i X;obtain⟨y,t3,ag,aa,z⟩:=bind_eq h;clear h;have h:=z;clear z;obtain⟨ab,ac⟩:=J _ _ _ _ _ _ X L.tail.tail.tail.breaks M aa;exact NW ab ac ⟨⟨K,fun _ h=>(by cases h),fun _ h=>(by cases h),fun _ h=>(by cases h),⟨DD _,fun _ h=>(by cases h)⟩,by simp⟩,⟨by show(1:Int)<=15;omega,by show(15:Int)<=15;omega⟩,fun e=>Aj (show(15:Int)=1 from e) (by omega),fun h=>Aj h.2 (by show¬(15:Int)<=6;omega)⟩ h
 ·exact(CX h).elim
theorem XZ(L:∀s,P s->Q s)(I:Q []){J:Eg}(K:∀d,Xy Q P N (J d))(d:Nat):RP Q P N (FW J d):=by
 intro ts ns x W X F G h;unfold FW at h;split at h
 ·rename_i M;exact K d _ _ _ _ _ M F G h
 ·split at h
  ·rename_i z;have O:Q (Xx ts):=L _<|by
    unfold I2 at z;split at z
    ·simp only[CN]at z;exact PU F z.1.1.1
    ·cases z
   unfold B1 at h;split at h
   ·cases h
   ·exact Xr K _ ts O I F G h
  ·exact Wf I _ _ _ _ _ F G h
theorem VK(G:∀s,P s->Q s)(h:Q [])(z:3<=N){F:Eg}(I:∀d,Xy Q P N (F d))(d:Nat):RP Q P N (S8 F d):=WW h z (Vi h z (Va h (XZ G h I d)))
theorem XY(I:Q [])(aj:3<=N){Al:DC}(J:RP Q P N Al):∀(f:Nat) (ts:List AY) (ns:List V) (x:Int) (G:List AY) (F:List V),EF P N ts->GS Q P N ns->FZ Al f ts ns=.ok x G F->EF P N G/\GS Q P N F/\ ∃n0 m,F=n0++[m]/\x=(n0.length:Int)/\m.kind≠1:=by
 intro f;induction f with
 |zero=>intro ts ns x G F _ _ h;cases h
 |succ f ih=>
  intro ts ns x G F aa ab h;rw[FZ]at h;obtain⟨a,t1,ak,ac,z⟩:=bind_eq h;clear h;have h:=z;clear z;obtain⟨ad,ae⟩:=J _ _ _ _ _ aa ab ac;obtain⟨_,t2,al,af,z⟩:=bind_eq h;clear h;have h:=z;clear z;obtain⟨rfl,rfl⟩:=Ej af;obtain⟨b,t3,am,ag,z⟩:=bind_eq h;clear h;have h:=z;clear z;obtain⟨K,L⟩:=J _ _ _ _ _ ad.tail ae ag;split at h
  ·obtain⟨c,t4,ah,M,z⟩:=bind_eq h;clear h;have h:=z;clear z;obtain⟨O,W,_⟩:=ih _ _ _ _ _ K.tail L M;exact LK O W (LY I (by simp;omega) (by omega) (fun _=>by simp)) (by show(10:Int)≠1;decide) h
  ·split at h
   ·obtain⟨c,t4,ah,M,z⟩:=bind_eq h;clear h;have h:=z;clear z;obtain⟨O,W⟩:=J _ _ _ _ _ K.tail L M;obtain⟨_,t5,ai,X,z⟩:=bind_eq h;clear h;have h:=z;clear z;obtain⟨rfl,rfl⟩:=Ej X;exact LK O.tail W (LY I (by simp;omega) (by omega) (fun _=>by simp)) (by show(10:Int)≠1;decide) h
   ·obtain⟨_,t5,ai,X,z⟩:=bind_eq h;clear h;have h:=z;clear z;obtain⟨rfl,rfl⟩:=Ej X;exact LK K.tail L (LY I (by simp;omega) (by omega) (fun _=>by simp)) (by show(10:Int)≠1;decide) h
theorem PV:∀(ts:List AY),EF P N ts->(∀s∈Cv ts,P s)/\EF P N (BS ts)
 |[],h=>⟨fun _ h=>(by cases h),h⟩
 |t::r,h=>by
  rw[Cv,BS];split
  ·rename_i hk;obtain⟨a,b⟩:=PV r h.of_cons;refine⟨fun s hs=>?_,b⟩;rw[List.mem_cons]at hs;rcases hs with rfl|hs
   ·exact h.w t (En ..) (.inl hk)
   ·exact a s hs
  ·exact⟨fun _ h=>(by cases h),h⟩
theorem Vk(K:∀s,P s->Q s){ts:List AY}{ns:List V}{m:V}{L:List AY}{M:List V}(O:EF P N ts)(h:E4 ts ns=.ok m L M):EF P N L/\M=ns/\O1 Q P N m/\m.kind=13:=by
 cases ts with
 |nil=>cases h
 |cons t r=>
  unfold E4 at h;simp only[]at h;split at h
  ·rename_i aa;have W:=PU O aa;have X:=O.of_cons.breaks;split at h
   ·split at h
    ·obtain⟨_,t1,ab,F,z⟩:=bind_eq h;clear h;have h:=z;clear z;obtain⟨rfl,rfl⟩:=Ej F;obtain⟨a,b⟩:=PV _ X.tail;injection h with G I J;subst G I J;exact⟨b.tail.breaks.tail,rfl,⟨K _ W,fun _ h=>(by cases h),a,fun _ h=>(by cases h),⟨DD _,fun _ h=>(by cases h)⟩,DD _⟩,rfl⟩
    ·exact(CX h).elim
   ·obtain⟨_,t1,ab,F,z⟩:=bind_eq h;clear h;have h:=z;clear z;obtain⟨rfl,rfl⟩:=Ej F;injection h with G I J;subst G I J;exact⟨(X.take _).breaks.tail,rfl,⟨K _ W,fun _ h=>(by cases h),fun _ h=>(by cases h),fun _ h=>(by cases h),⟨DD _,fun _ h=>(by cases h)⟩,DD _⟩,rfl⟩
  ·exact(CX h).elim
theorem Rp{ts:List AY}{ns:List V}{s:List UInt8}{z:List AY}{F:List V}(G:EF P N ts)(h:Ea ts ns=.ok s z F):EF P N z/\F=ns/\P s:=by
 cases ts with
 |nil=>cases h
 |cons t r=>
  unfold Ea at h;simp only[]at h;split at h
  ·rename_i hk;injection h with I J K;subst I J K;exact⟨G.of_cons,rfl,G.w t (En ..) (.inl hk)⟩
  ·exact(CX h).elim
theorem V5:∀(f:Nat) (z:List (List UInt8)) (ts:List AY) (ns:List V) (l:List (List UInt8)) (F:List AY) (G:List V),EF P N ts->(∀s∈z,P s)->DN f z ts ns=.ok l F G->EF P N F/\G=ns/\(∀s∈l,P s)/\l.length+1<=z.length+f:=by
 intro f;induction f with
 |zero=>intro z ts ns l F G _ _ h;cases h
 |succ f ih=>
  intro z ts ns l F G I J h;rw[DN]at h;split at h
  ·obtain⟨s,t1,aa,L,K⟩:=bind_eq h;clear h;have h:=K;clear K;obtain⟨M,rfl,hs⟩:=Rp I.tail L;obtain⟨a,b,c,d⟩:=ih _ _ _ _ _ _ M (by
    intro x hx;rw[ID,DA]at hx;rcases hx with hx|rfl
    ·exact J x hx
    ·exact hs) h
   rw[BG,Cj]at d;exact⟨a,b,c,by omega⟩
  ·injection h with O W X;subst O W X;exact⟨I,rfl,J,by omega⟩
structure X0(Q P:List UInt8->Prop)(N:Nat)(m:V):Prop where
 name:Q m.name
 kd:m.kind=14
 AZ:∀s∈m.AZ,P s
 words:∀s∈m.words,P s
 AK:∀r∈m.AK,r.op∈GJ/\P r.wd
 AT:∀p∈m.AT,p.length<=N+1/\ ∀s∈p,P s
theorem Vr{Al:DC}(af:RP Q P N Al):∀(f:Nat) (m:V) (ts:List AY) (ns:List V) (G:V) (L:List AY) (M:List V),EF P N ts->GS Q P N ns->X0 Q P N m->Ck Al f m ts ns=.ok G L M->EF P N L/\GS Q P N M/\X0 Q P N G/\G.AT.length<=m.AT.length+f/\G.kids.length<=m.kids.length+f:=by
 intro f;induction f with
 |zero=>intro m ts ns G L M _ _ _ h;cases h
 |succ f ih=>
  intro m ts ns G L M X aa F h;rw[Ck]at h;split at h
  ·injection h with O J K;subst O J K;exact⟨X,aa,F,by omega,by omega⟩
  ·have ag:EF P N (if Dx ts Bz=true then ts.tail else ts):=by
    split
    ·exact X.tail
    ·exact X
   obtain⟨s,t1,an,ah,z⟩:=bind_eq h;clear h;have h:=z;clear z;obtain⟨ac,rfl,hs⟩:=Rp ag ah;obtain⟨p,t2,ao,ai,z⟩:=bind_eq h;clear h;have h:=z;clear z;obtain⟨ad,rfl,aj,ak⟩:=V5 _ _ _ _ _ _ _ ac (fun x hx=>by rw[DA]at hx;rw[hx];exact hs) ai;have ap:=ac.len;rw[Cj]at ak;obtain⟨_,t3,aq,al,z⟩:=bind_eq h;clear h;have h:=z;clear z;obtain⟨rfl,rfl⟩:=Ej al;obtain⟨x,t4,am,ab,z⟩:=bind_eq h;clear h;have h:=z;clear z;have W:EF P N t4/\GS Q P N am:=by
    split at ab
    ·exact af _ _ _ _ _ ad.tail.breaks aa ab
    ·injection ab with O J K;subst J K;exact⟨ad.tail.breaks,aa⟩
   have ae:X0 Q P N { m with AT:=m.AT++[p],kids:=m.kids++[x] } :=⟨F.name,F.kd,F.AZ,F.words,F.AK,fun q I=>by
    have I:q∈m.AT++[p]:=I;rw[ID,DA]at I;rcases I with I|rfl
    ·exact F.AT q I
    ·exact⟨by omega,aj⟩⟩
   simp only[]at h;split at h
   ·obtain⟨a,b,c,d,e⟩:=ih _ _ _ _ _ _ W.1.tail.breaks W.2 ae h;simp only[BG,Cj]at d e;exact⟨a,b,c,by omega,by omega⟩
   ·injection h with O J K;subst O J K;exact⟨W.1,W.2,ae,by simp only[BG,Cj];omega,by simp only[BG,Cj];omega⟩
theorem TW(J:Q []){Al:DC}(K:RP Q P N Al){ts:List AY}{ns:List V}{m:V}{G:List AY}{I:List V}(L:EF P N ts)(M:GS Q P N ns)(h:EN Al ts ns=.ok m G I):EF P N G/\GS Q P N I/\O1 Q P N m/\m.kind=14:=by
 unfold EN at h;obtain⟨s,t1,ae,O,z⟩:=bind_eq h;clear h;have h:=z;clear z;obtain⟨F,rfl,hs⟩:=Rp L O;obtain⟨_,t3,af,W,z⟩:=bind_eq h;clear h;have h:=z;clear z;obtain⟨rfl,rfl⟩:=Ej W;obtain⟨ag,t4,ah,X,z⟩:=bind_eq h;clear h;have h:=z;clear z;have ai:=F.breaks.tail.len;obtain⟨a,b,c,d,e⟩:=Vr K _ _ _ _ _ _ _ F.breaks.tail.breaks M (⟨J,rfl,fun _ h=>(by cases h),fun x hx=>(by rw[DA]at hx;rw[hx];exact hs),fun _ h=>(by cases h),fun _ h=>(by cases h)⟩:X0 Q P N { kind:=14,words:=[s] }) X;obtain⟨_,t5,aj,aa,z⟩:=bind_eq h;clear h;have h:=z;clear z;obtain⟨rfl,rfl⟩:=Ej aa;injection h with ab ac ad;subst ab ac ad;have ak:=F.breaks.tail.breaks.len;simp only[CU]at d e;exact⟨a.tail,b,⟨c.name,c.AZ,c.words,c.AK,⟨by omega,c.AT⟩,by omega⟩,c.kd⟩
theorem QE{t:AY}(h:Fj t=true):t.t=GM\/t.t=Bz\/t.t=Ph\/t.t=JS\/t.t=GQ\/t.t=Dv\/t.t=Dk:=by
 unfold Fj at h;rw[GX,CN,CN]at h;rcases h with⟨_,z⟩|⟨_,z⟩
 ·exact .inr (.inl (eq_of_beq z))
 ·have F:t.t∈Fi:=(by simpa using z);have G:∀s∈Fi,s=GM\/s=Bz\/s=Ph\/s=JS\/s=GQ\/s=Dv\/s=Dk:=(by decide);exact G _ F
theorem UY(ai:∀s,P s->Q s)(ab:Q [])(aj:3<=N){Al:DC}(J:RP Q P N Al)(s:List UInt8)(hs:s=GM\/s=Bz\/s=Ph\/s=JS\/s=GQ\/s=Dv\/s=Dk){ts:List AY}{ns:List V}{x:Int}{ac:List AY}{K:List V}(L:EF P N ts)(M:GS Q P N ns)(h:coreS Al s ts ns=.ok x ac K):EF P N ac/\GS Q P N K/\ ∃n0 m,K=n0++[m]/\x=(n0.length:Int)/\m.kind≠1:=by
 have one:∀(O:Int) (c:List UInt8),8<=O/\O<=15->((Al ts ns).bind fun x ts ns=>(AX c ts ns).bind fun _ ts ns=>Ao { kind:=O,kids:=[x] } ts ns)=.ok x ac K->EF P N ac/\GS Q P N K/\ ∃n0 m,K=n0++[m]/\x=(n0.length:Int)/\m.kind≠1:=by
  intro O c ak h;obtain⟨y,t1,W,F,z⟩:=bind_eq h;clear h;have h:=z;clear z;obtain⟨G,X⟩:=J _ _ _ _ _ L M F;obtain⟨_,t5,ad,aa,z⟩:=bind_eq h;clear h;have h:=z;clear z;obtain⟨rfl,rfl⟩:=Ej aa;exact LK G.tail X (LY ab (by simp) (by omega) (fun _=>BN _)) (show O≠1 by omega) h
 unfold coreS at h;split at h
 ·exact one 8 C4 (by omega) h
 ·rename_i W;split at h
  ·exact one 9 DX (by omega) h
  ·rename_i ae;split at h
   ·exact XY ab aj J _ _ _ _ _ _ L M h
   ·rename_i ag;split at h
    ·obtain⟨m,t1,W,F,z⟩:=bind_eq h;clear h;have h:=z;clear z;obtain⟨G,rfl,I,hk⟩:=Vk ai L F;obtain⟨y,t2,ae,af,z⟩:=bind_eq h;clear h;have h:=z;clear z;obtain⟨al,am⟩:=J _ _ _ _ _ G M af;obtain⟨_,t5,ad,aa,z⟩:=bind_eq h;clear h;have h:=z;clear z;obtain⟨rfl,rfl⟩:=Ej aa;exact LK (m:= { m with kids:=[y] }) al.tail am ⟨⟨I.name,I.AZ,I.words,I.AK,I.AT,by show 1<=N+1;omega⟩,⟨by show 1<=m.kind;omega,by show m.kind<=15;omega⟩,fun e=>Aj (show m.kind=1 from e) (by omega),fun _ e=>by cases e⟩ (by show m.kind≠1;omega) h
    ·rename_i an;split at h
     ·obtain⟨m,t1,W,F,z⟩:=bind_eq h;clear h;have h:=z;clear z;obtain⟨G,X,I,hk⟩:=TW ab J L M F;exact LK G X ⟨I,⟨by omega,by omega⟩,fun e=>Aj e (by omega),fun h=>Aj h.2 (by omega)⟩ (by omega) h
     ·rename_i ad;have ak:(if s=Dk then(12:Int)else if s=Dv then 11 else 0)=11\/(if s=Dk then(12:Int)else if s=Dv then 11 else 0)=12:=by
       rcases hs with e|e|e|e|e|e|e
       ·exact Aj e W
       ·exact Aj e ae
       ·exact Aj e ag
       ·exact Aj e an
       ·exact Aj e ad
       ·by_cases ah:s=Dk
        ·rw[Ai ah];exact .inr rfl
        ·rw[AP ah,Ai e];exact .inl rfl
       ·rw[Ai e];exact .inr rfl
      obtain⟨y,t1,W,F,z⟩:=bind_eq h;clear h;have h:=z;clear z;obtain⟨G,X⟩:=J _ _ _ _ _ L M F;obtain⟨_,t2,ae,af,z⟩:=bind_eq h;clear h;have h:=z;clear z;obtain⟨rfl,rfl⟩:=Ej af;obtain⟨ar,t3,ag,ao,z⟩:=bind_eq h;clear h;have h:=z;clear z;obtain⟨ap,aq⟩:=J _ _ _ _ _ G.tail X ao;obtain⟨_,t5,ad,aa,z⟩:=bind_eq h;clear h;have h:=z;clear z;obtain⟨rfl,rfl⟩:=Ej aa;exact LK ap.tail aq (LY ab (by simp;omega) (by omega) (fun _=>by simp)) (by show(if s=Dk then(12:Int)else if s=Dv then 11 else 0)≠1;omega) h
theorem UE(z:∀s,P s->Q s)(F:Q [])(G:3<=N){Al:Eg}(I:∀d,RP Q P N (Al d))(d:Nat):RC Q P N (F5 Al d):=by
 intro ts ns x M O J K L h;cases ts with
 |nil=>cases h
 |cons t r=>
  unfold F5 at h;simp only[]at h;split at h
  ·cases h
  ·exact UY z F G (I d) _ (QE J) K.of_cons L h
theorem SA(h:∀s,P s->Q s)(z:Q [])(F:3<=N):∀f d,RC Q P N (core f d)
 |0,_=>fun _ _ _ _ _ _ _ _ G=>by cases G
 |f+1,d=>UE h z F (VK h z F (Ur (SA h z F f))) d
theorem RV(h:∀s,P s->Q s)(z:Q [])(F:3<=N){ts:List AY}(I:EF P N ts):GS Q P N (JK ts).ns:=by
 have none:GS Q P N []:=fun m J=>by cases J
 have G:=I.breaks;unfold JK;cases K:AG ts with
 |nil=>exact none
 |cons t r=>
  rw[K]at G;simp only[];split
  ·exact none
  ·cases L:Al ts.length 0 (t::r) []with
   |bad a e=>exact none
   |ok x t1 O=>
    have M:=(VK h z F (Ur (SA h z F ts.length)) 0 _ _ _ _ _ G none L).2;cases t1 with
    |nil=>exact none
    |cons u q=>
     simp only[];split
     ·exact none
     ·split
      ·exact none
      ·exact M
theorem Ns(z:∀s,P s->Q s)(F:Q []){s:List UInt8}(G:∀ts,GA s=.ok ts-> ∀t∈ts,t.k=1\/t.k=3->P t.t):GS Q P 402 (CD s).ns:=by
 unfold CD;cases h:GA s with
 |err a e=>exact fun m I=>by cases I
 |ok ts=>exact RV z F (by decide) ⟨by have:=(Ie h).2.len;omega,G ts h⟩
theorem Qe(s:List UInt8):GS (fun _=>True) (fun x=>x.length<=4096) 402 (CD s).ns:=by
 refine Ns (fun _ _=>trivial) trivial fun ts z t F hk=>?_
 rcases(Ie z).2.w t F with h|h
 ·have:=h.1;omega
 ·exact h.len
end
section
open Lx Proofs.Tryz
theorem join_le:∀p:List (List UInt8),(∀s∈p,s.length<=4096)->(Cs p).length<=p.length*4099
 |[],_=>DD _
 |[s],h=>by
  have:=h s (En ..);show s.length<=1*4099;omega
 |s::t::r,h=>by
  have F:=h s (En ..);have z:=join_le (t::r) fun x hx=>h x (List.mem_cons_of_mem _ hx)
  show(s++[32,124,32]++Cs (t::r)).length<=_;simp only[BG,BR,CU]at z⊢;omega
theorem Ui:∀s∈GJ,s.length<=2/\10∉s:=by decide
theorem WV{l:List V}(G:GS (fun _=>True) (fun x=>x.length<=4096) 402 l):Xj l:=by
 intro n I;have h:=G n I;refine⟨by have:=h.kids;omega,by have:=h.AT.1;omega,⟨fun s hs=>by have:=h.words s hs;omega,fun p J=>?_,fun r K=>?_⟩⟩
 ·obtain⟨z,F⟩:=h.AT.2 p J;have:=join_le p F;omega
 ·obtain⟨z,F⟩:=h.AK r K;have:=(Ui _ z).1;omega
theorem QI(s:List UInt8):Xj (CD s).ns:=WV (Qe s)
end
end Go.Proofs.YtdhfhphbkfgamaaGreat
