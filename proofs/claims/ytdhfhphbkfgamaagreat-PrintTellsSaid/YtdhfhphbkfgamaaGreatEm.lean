/- A part. -/
import Derived.Test.YtdhfhphbkfgamaaGreatEl
set_option maxRecDepth 100000
set_option linter.all false
set_option maxHeartbeats 0
namespace Go.Proofs.YtdhfhphbkfgamaaGreat
open Go.RowKit Lx Proofs.Tryz
def Cn{α:Type}(R:PR α)(d n tot:Nat)(C:List AY->PR α):DS->Prop
 | .ok h d2=>d2=d/\R=C h/\tot+10*h.length<=5000/\h.length<=n/\Good h/\Wl h
 | .er a k=>R=.bad a k
section
variable {α β:Type}{R:PR α}{d n tot:Nat}
theorem Cn.next{C:List AY->PR α}{t:AY}{r:List AY}{d2:Nat}{z:List AY->PR α}(h:Cn R d n tot C (.ok (t::r) d2))(hk:t.k≠4)(F:C (t::r)=z r):Cn R d n tot z (.ok r d2):=
 ⟨h.1,h.2.1.trans F,by have:=h.2.2.1;simp only[BR]at this;omega,by have:=h.2.2.2.1;simp only[BR]at this;omega,h.2.2.2.2.1.tail hk,h.2.2.2.2.2.tail⟩
theorem Cn.IN{s:List UInt8}{ns:List V}{f:Unit->List AY->List V->PR α}{z:DS}(G:Cn R d n tot (fun h=>(AX s h ns).bind f) z):Cn R d n tot (fun h=>f () h ns) (CG s z):=by
 cases z with
 |er a k=>exact G
 |ok h d2=>
  obtain⟨K,I,L,M,J,N⟩:=G;obtain⟨t,r,rfl⟩:=J.ne;show Cn R d n tot _ (if BT (t::r) s=true then _ else _);cases F:BT (t::r) s with
  |true=>
   rw[Ai rfl];refine Cn.next (C:=fun h=>(AX s h ns).bind f) ⟨K,I,L,M,J,N⟩ (GL F).1 ?_;show(AX s (t::r) ns).bind f=f () r ns;unfold AX;rw[Ai F];rfl
  |false=>
   rw[AP (by decide)];show R=PR.bad t.a _;rw[I];show(AX s (t::r) ns).bind f=_;unfold AX;rw[AP (by rw[F];decide)];rfl
theorem Cn.breaks{C:List AY->PR α}{F:DS}(z:Cn R d n tot (fun h=>C (AG h)) F):Cn R d n tot C (B9 F):=by
 cases F with
 |er a k=>exact z
 |ok h d2=>
  obtain⟨G,I,M,N,J,K⟩:=z;have L:=Ae J;refine⟨G,I,by omega,by omega,L.1,?_⟩;have:∀h:List AY,Wl h->Wl (AG h):=by
   intro h;induction h with
   |nil=>intro z;exact z
   |cons t r ih=>
    intro z;rw[AG];split
    ·exact ih z.2.2.2
    ·exact z
  exact this h K
theorem Cn.Wv{C:List AY->PR α}{h:DS}(F:Cn R d n tot C h){s:List UInt8}(hs:s∉D9):(∃z d2,h=.ok z d2/\Lj h s=BT z s)\/(∃a k,h=.er a k/\Lj h s=false):=by
 cases h with
 |er a k=>exact .inr ⟨a,k,rfl,rfl⟩
 |ok z d2=>exact .inl ⟨z,d2,rfl,(F.2.2.2.2.2.Wv hs).symm⟩
end
def M4(Al:Eg)(n:Nat):Prop:=∀(α:Type) (R:PR α) (rb:Nat) (T:List AY) (d tot:Nat) (ps:List (List V)) (f:Int->List AY->List V->PR α) (F:DS) (w:World),BU w rb T F->Cn R d n tot (fun h=>(Al d h (AQ ps).1).bind f) F->
 Calls prog 48 #[.pointer (some ⟨rb,0,none⟩)] w fun e w'=> ∃v ms z,e=.returned v/\F2 w w' ms v/\BU w' rb T z/\w.grownBy w' (some rb)/\Cn R d n (tot+ms.length) (fun h=>f ((((AQ ps).1.length+ms.length:Nat):Int)-1) h (AQ (ps++[ms])).1) z/\(∀h d2,z=.ok h d2->ms≠[])/\ms.length<=5000/\(∀h d2 G d3,F=.ok h d2->z=.ok G d3->G.length+1<=h.length)/\(∀a k,F=.er a k->z=.er a k)
theorem Rq{Al:Eg}{n:Nat}(ad:Fc 2 Al)(ae:Hv Al)(af:Sa Lm 48 Al n):M4 Al n:=by
 intro α R rb T d tot ps f ag w X hs;cases ag with
 |er a k=>
  refine(TE rb T a k w X).mono ?_;rintro e w' ⟨rfl,ah,ai⟩;exact⟨_,[],.er a k,rfl,F2.nil w w',ah,ai,hs,(fun h d2 e=>by cases e),by simp,(fun h d2 z d3 e=>by cases e),fun a k e=>e⟩
 |ok h d2=>
  obtain⟨rfl,aa,am,aj,ak,an⟩:=hs;refine(af rb T d2 h w X aj).mono ?_;intro e w' F;have G:=JF (ae d2) h (AQ ps).1;cases J:Al d2 h []with
  |bad a k=>
   rw[J]at F G;obtain⟨v,K,L,I,M⟩:=F;subst K L;refine⟨_,[],.er a k,rfl,F2.nil w w',I,M,?_,(fun h d2 e=>by cases e),by simp,(fun h d2 z d3 _ e=>by cases e),fun a k e=>by cases e⟩;show R=PR.bad a k;rw[aa];show(Al d2 h (AQ ps).1).bind f=_;rw[G];rfl
  |ok x z ms=>
   rw[J]at F G;obtain⟨v,K,L,I,M⟩:=F;subst K;have N:=ad d2 _ _ _ _ _ ak J;obtain⟨ab,al,ao,ap⟩:=N.ne;have ac:=I.Ak;refine⟨v,ms,.ok z d2,rfl,L,I,M,⟨rfl,?_,by omega,by have:=N.len;omega,ac.1,ac.2.1⟩,fun _ _ _=>ab,by omega,fun aq ar au aw O W=>?_,fun a k e=>by cases e⟩
   ·rw[aa];show(Al d2 h (AQ ps).1).bind f=_;rw[G,DU ab];show f (Es (AQ ps).1.length x) z (E3 (AQ ps).1 ms)=_;rw[Iq _ _ (by omega),al];have:(ms.length:Int)-1+((AQ ps).1.length:Int)=(((AQ ps).1.length+ms.length:Nat):Int)-1:=(by omega);rw[this]
   ·injection O with O _;injection W with W _;subst O W;exact N.len
theorem MG{s:List UInt8}{z I:List AY}{d1 d2:Nat}(h:CG s (.ok z d1)=.ok I d2):I.length<=z.length/\d2=d1:=by
 unfold CG at h;simp only[]at h;split at h
 ·injection h with F G;rw[<-F,<-G,List.length_tail];exact⟨by omega,rfl⟩
 ·cases z with
  |nil=>injection h with F G;rw[<-F,<-G];exact⟨BN _,rfl⟩
  |cons t r=>cases h
theorem OZ:IH∉D9/\Fl∉D9/\Fa∉D9/\Fb∉D9/\ER∉D9/\BX∉D9/\C4∉D9/\F1∉D9/\DG∉D9:=by decide
theorem MV{a b:List V}(h:a≠[])(z:b≠[]):AQ [a,b]=((AQ ([a]++[b])).1,[(((AQ []).1.length+a.length:Nat):Int)-1,(((AQ [a]).1.length+b.length:Nat):Int)-1]):=by
 have F:=DU (ps:=[]) h;have G:=DU (ps:=[a]) z;show AQ ([a]++[b])=_;rw[G];have I:(AQ [a]).2=[(((AQ []).1.length+a.length:Nat):Int)-1]:=by
  show(AQ ([]++[a])).2=_;rw[F];rfl
 rw[I];rfl
theorem Tq(n:Nat)(Al:Eg)(cl:Fc 2 Al)(cm:Hv Al)(cn:M4 Al n):∀(X:Nat) (rb:Nat) (T:List AY) (d:Nat) (ts:List AY) (w:World),BU w rb T (.ok ts d)->ts.length<=n->ts.length<X->Calls prog 124 #[.pointer (some ⟨rb,0,none⟩)] w (GU (F2 w) Lm rb T d w (FZ (Al d) X ts [])):=by
 intro X;induction X with
 |zero=>intro rb T d ts w _ _ h;omega
 |succ X ih=>
  intro rb T d ts w h bn hF;have bo:=Z (fun tot ps f aM L aa hs=>cn Int (FZ (Al d) (X+1) ts []) rb T d tot ps f aM L aa hs);have c1:=Z (fun ts L aa bp ax=>ih rb T d ts L aa bp ax);have a5:=Z (fun L aM s (aa:BU L rb T aM)=>Ge rb T aM s L aa);have bF:=Z (fun L aM s (aa:BU L rb T aM)=>Gg rb T aM s L aa);have bG:=Z (fun ps n c2 L (aa:w.heap.size<=L.heap.size) c5 bn hk c6 c7 bq=>F3 (low w) ps n c2 (.slice none 0 0) (.slice none 0 0) (.slice none 0 0) (.slice none 0 0) L (fun k hk=>DZ hk aa) c5 bn hk c6 c7 bq);have c8:=Z (KY (cl d) X);have c9:=Z (VP (cm d) X);unfold Qb at bF;unfold Qu at a5;have co:=Z h.lb;have bH:=Z h.Ak;have c':=Z hF;obtain⟨R,bI⟩:=U (FZ (Al d) (X+1) ts []);rw[bI]at bo⊢;have cp:Cn R d n 0 (fun G=>(Al d G (AQ []).1).bind fun a ts ns=>(AX Fb ts ns).bind fun _ ts ns=>(Al d ts ns).bind fun b ts ns=>
    if BT ts Fl=true then(FZ (Al d) X ts.tail ns).bind fun c ts ns=>Ao { kind:=10,kids:=[a,b,c] } ts ns
    else if BT ts Fa=true then(Al d ts.tail ns).bind fun c ts ns=>(AX IH ts ns).bind fun _ ts ns=>Ao { kind:=10,kids:=[a,b,c] } ts ns
    else(AX IH ts ns).bind fun _ ts ns=>Ao { kind:=10,kids:=[a,b] } ts ns) (.ok ts d):=
   ⟨rfl,bI.symm,by have:=bH.out.2.2.2.1;omega,bn,bH.out.1,bH.out.2.1⟩
  have da:=Z (bo.out 0 [] _ _ w h cp);have dD:=Z (show∀G d2,DS.ok ts d=.ok G d2->G=ts from fun G d2 e=>by injection e with e _;exact e.symm);clear bI cp h bn hF ih cn cl cm;go_enter func124,ntmps124;go_wp2_with fail;refine da.out.mono ?_;rintro e db ⟨dE,z,a2,rfl,bJ,bK,cq,cr,cs,ct,cu,cv⟩;obtain⟨bL,ac,rfl⟩:=bJ.form;have aN:=Z bJ;have dc:=Z bK;have dd:=Z cq;have cw:=Z (BC cs (BC ct (BC cu cv)));have de:=Z cr;have cx:=Z (a5.out db a2 Fb bK);unfold Fb sv at cx;clear bJ bK cq cr cs ct cu cv;go_wp2_with fail;refine cx.out.mono ?_;rintro e df ⟨rfl,ax,bM⟩;have aN:=Z (aN.out.rb bM dc.out.AO);have cy:=Z (AJ dd.out bM);have bN:=Z ax;have cz:=Z (show Cn R d n (0+z.length) _ (CG Fb a2)from Cn.IN de.out);obtain⟨br,ay⟩:=U (CG Fb a2);have cA:=Z ay;rw[show CG [116,104,101,110] a2=br from ay]at bN;rw[ay]at cz;have dg:=Z (bo.out (0+z.length) ([]++[z]) _ br df bN.out cz.out);clear ax bM ay;go_wp2_with fail;refine dg.out.mono ?_;rintro e bs ⟨dF,F,a6,rfl,bO,bP,bQ,bt,cB,cC,cD,cE⟩;obtain⟨bR,ae,rfl⟩:=bO.form;have aN:=Z (aN.out.rb bQ bN.out.AO);have bS:=Z (bO.low cy.out.size);have cF:=Z (AJ cy.out bQ);have dG:=Z bP;have bu:=Z (BC cB (BC cC (BC cD cE)));have cG:=Z bt;have a3:=Z (My (w0:=w) aN.out.1 bS.out.1 aN.out.2.2.2 bS.out.2.2.2);have af:=Z (bP.grown (AF (AB bs none) (.cells #[.slice bL z.length ac,.slice bR F.length ae] 22)));have aO:=Z (AF cF.out (.cells #[.slice bL z.length ac,.slice bR F.length ae] 22));have cH:=Z (show∀g,(Value.slice (some ⟨bs.heap.size,0,none⟩) 2 2).ownBlock=some g->w.heap.size<=g from fun g aP=>by simp[Value.ownBlock]at aP;have:=cF.out.size;omega);have dh:=Z (show∀m∈[z,F],KB m from fun m bv=>by
   rcases List.mem_cons.1 bv with rfl|bv
   ·exact aN.out.2.1
   ·rw[DA]at bv;subst bv;exact bS.out.2.1)
  have bT:=Z (fun L aa=>bF.out L a6 Fl aa);have bU:=Z (fun L aa=>bF.out L a6 Fa aa);have bV:=Cn.Wv bt OZ.2.1;have bW:=Cn.Wv bt OZ.2.2.1;obtain⟨bX,az⟩:=U (Lj a6 Fl);obtain⟨bY,aD⟩:=U (Lj a6 Fa);rw[az]at bV bT;rw[aD]at bW bU;have bZ:=Z (BC bV bW);unfold Fl sv at bT;unfold Fa sv at bU;clear bO bP bQ bt cB cC cD cE bV bW az aD;go_upto_region 5 with(fail);generalize bs.alloc (.cells #[.slice bL z.length ac,.slice bR F.length ae] 22)=di,bs.heap.size=aQ at a3 af aO cH⊢;go_wp2_with fail;refine(bT.out di af.out).mono ?_;rintro e dj ⟨rfl,bw⟩;have a3:=Z (a3.out.grown bw);have af:=Z (af.out.grown bw);have aO:=Z (AJ aO.out (Bt bw));clear bw;go_wp2_with fail;refine(bU.out dj af.out).mono ?_;rintro e aR ⟨rfl,bx⟩;have a3:=Z (a3.out.grown bx);have af:=Z (af.out.grown bx);have aO:=Z (AJ aO.out (Bt bx));clear bx;cases a6 with
  |er aE ad=>
   obtain⟨rfl,rfl⟩:bX=false/\bY=false:=by
    obtain⟨bp,ax⟩:=bZ.out;refine⟨?_,?_⟩
    ·rcases bp with⟨_,_,e,_⟩|⟨_,_,_,e⟩
     ·cases e
     ·exact e
    ·rcases ax with⟨_,_,e,_⟩|⟨_,_,_,e⟩
     ·cases e
     ·exact e
   have M:=Z (show R=.bad aE ad from cG.out);have ag:=Z (a5.out aR (.er aE ad) IH af.out);unfold IH CG sv at ag;simp only[]at ag;go_wp2_with fail;refine ag.out.mono ?_;rintro e dH ⟨rfl,cI,cJ⟩;have J:=Z cI;have K:=Z (AJ aO.out cJ);clear cI cJ;obtain⟨aF,i,b0,h,ah⟩:=J.out;obtain⟨ao,ap,aq,c3,c4⟩:=h.cells;have lb:=h.lb;have b1:(ad !=0)=true:=JY ah;clear h ah;go_wp2_with fail;rw[M.out];go_ret;exact⟨_,rfl,rfl,J.out,K.out⟩
  |ok G d3=>
   obtain⟨dk,bz,b2,bA,aA,a7⟩:=cG.out;subst dk;have az:bX=BT G Fl:=by
    rcases bZ.out.1 with⟨_,_,e,h⟩|⟨_,_,e,_⟩
    ·injection e with e _;rw[h,e]
    ·cases e
   have aD:bY=BT G Fa:=by
    rcases bZ.out.2 with⟨_,_,e,h⟩|⟨_,_,e,_⟩
    ·injection e with e _;rw[h,e]
    ·cases e
   have dl:=Z (show z≠[] by
    cases a2 with
    |ok b3 d1=>exact cw.out.1 b3 d1 rfl
    |er a k=>
     have ax:br=.er a k:=(by rw[<-cA.out];rfl);have:=bu.out.2.2.2 a k ax;cases this)
   have dm:=Z (bu.out.1 G d3 rfl);have dn:=Z (show G.length<=ts.length by
    cases ay:br with
    |er a k=>
     have:=bu.out.2.2.2 a k ay;cases this
    |ok b4 d2=>
     have bp:=bu.out.2.2.1 b4 d2 G d3 ay rfl;have bB:=cA.out;cases b5:a2 with
     |er a k=>rw[b5,ay]at bB;cases bB
     |ok b3 d1=>
      have ax:=cw.out.2.2.1 ts d3 b3 d1 rfl b5;rw[b5,ay]at bB;have:=(MG bB).1;omega)
   have dp:=Z (MV dl.out dm.out);have bC:=Z (show BP [z,F]+10*G.length<=5000 by show _+(_+0)+_<=_;omega);have aS:=Z (⟨af.out,a3.out,cH.out,dh.out,aO.out,co.out⟩:KU w aR rb T (.ok G d3) (.slice (some ⟨aQ,0,none⟩) 2 2) [z,F]);have b6:=Z (BC bA aA);have b7:=Z (show R=(if BT G Fl=true then(FZ (Al d3) X G.tail (AQ [z,F]).1).bind fun c ts ns=>Ao { kind:=10,kids:=[(((AQ []).1.length+z.length:Nat):Int)-1,(((AQ [z]).1.length+F.length:Nat):Int)-1,c] } ts ns
    else if BT G Fa=true then(Al d3 G.tail (AQ [z,F]).1).bind fun c ts ns=>(AX IH ts ns).bind fun _ ts ns=>Ao { kind:=10,kids:=[(((AQ []).1.length+z.length:Nat):Int)-1,(((AQ [z]).1.length+F.length:Nat):Int)-1,c] } ts ns
    else(AX IH G (AQ [z,F]).1).bind fun _ ts ns=>Ao { kind:=10,kids:=[(((AQ []).1.length+z.length:Nat):Int)-1,(((AQ [z]).1.length+F.length:Nat):Int)-1] } ts ns)from bz)
   have b8:=Z (show(AQ [z,F]).2=[(((AQ []).1.length+z.length:Nat):Int)-1,(((AQ [z]).1.length+F.length:Nat):Int)-1] by rw[dp.out]);cases bX with
   |true=>
    have cK:=Z az.symm;obtain⟨t,r,O⟩:=aA.ne;have aT:t.k≠4:=(GL (O▸cK.out)).1;have a8:G.tail=r:=(by rw[O];rfl);obtain⟨aF,a,bD,h,ai,aj⟩:=af.out;obtain⟨ao,ap,aq,c3,c4⟩:=h.cells;have lb:=h.lb;have b9:=Y.frozen h.BF 1;have b':(a:Int)<=500:=(by have:=h.lt;have:=h.tg.len;omega);have ca:=Z (BU.next h ai aj O aT);have a9:Good r:=(O▸aA:Good (t::r)).tail aT;have a4:=Z (show r.length+1=G.length by rw[O];rfl);have cb:=Z (show R=((FZ (Al d3) X r (AQ [z,F]).1).bind fun c ts ns=>Ao { kind:=10,kids:=(AQ [z,F]).2++[c] } ts ns) by rw[b7.out,Ai cK.out,a8,b8.out];rfl);have dq:=Z a9;clear h ai aj O aT a8 bz b2 bA aA a7 az aD a9;go_upto_region 10 with(fail);have a':=AN (AB aR (some rb)) (p:=⟨rb,1,none⟩) (.inl rfl) (.int .i64 ((a:Int)+1));have W:=Z (aS.out.step a' ca.out);generalize aR.setCell ⟨rb,1,none⟩ (.int .i64 ((a:Int)+1))=cc at W⊢;clear a' ao ap aq c3 c4 lb b9 b';have cL:=Z (c1.out r cc W.out.st (by have:=a4.out;have:=b6.out.1;omega) (by have:=a4.out;have:=c'.out;have:=dn.out;omega));obtain⟨cM,bE⟩:=U (FZ (Al d3) X r []);rw[bE]at cL;have dr:=Z bE;have cN:=Z (show R=((cM.mv (AQ [z,F]).1 (Es (AQ [z,F]).1.length)).bind fun c ts ns=>Ao { kind:=10,kids:=(AQ [z,F]).2++[c] } ts ns) by rw[cb.out,JF c9.out,bE]);clear bE;go_wp2_with fail;refine cL.out.mono ?_;cases cM with
    |bad aE ad=>
     rintro e ba ⟨v,rfl,rfl,aG,aB⟩;obtain⟨aH,ac,ae⟩:=W.out.parts.M6 aB W.out.st.AO;have aU:=Z (show Own ba 22 1 (.slice (some ⟨aQ,0,none⟩) 2 2) 2 aH 0 from ac);have ds:=Z aG;have dt:=Z (AJ W.out.gr aB);have M:=Z (show R=.bad aE ad from cN.out);clear aG aB ac ae;go_upto_region 15 with(at_builtin;refine AV 22 (.slice none 0 0) 1 24 underlying110 GN rfl (.slice (some ⟨aQ,0,none⟩) 2 2) 2 aH 0 _ 1 [.slice none 0 0] rfl rfl (Own.alloc aU.out _) (by omega) (KI _ _ none 0 0 rfl) (by unfold maxLen;omega) (by omega) ?_;intro cO cd ar aC aV _;(have J:=Z ((ds.out.grown (AF (AB _ none) _)).Bo aC (fun k e=>by have:=W.out.new k e;have:=co.out;omega)));(have K:=Z (F7 dt.out _ aC W.out.new));(obtain⟨cP,cQ,rfl,_,_⟩:=Own.form ar);clear ar aC aV);obtain⟨aF,i,b0,h,ah⟩:=J.out;obtain⟨ao,ap,aq,c3,c4⟩:=h.cells;have lb:=h.lb;have b1:(ad !=0)=true:=JY ah;clear h ah;go_wp2_with fail;rw[M.out];go_ret;exact⟨_,rfl,rfl,J.out,K.out⟩
    |ok x b4 N=>
     rintro e ba ⟨v,rfl,aW,aG,aB⟩;obtain⟨aI,aJ,rfl⟩:=aW.form;have bq:=c8.out _ _ _ _ _ dq.out dr.out;obtain⟨cR,cS,du,dv⟩:=bq.ne;have bb:=Z (W.out.step aB aG);have aX:=Z (aW.low W.out.gr.size);have au:=Z (show BP ([z,F]++[N])<=5000 by rw[Eb];have:=bC.out;have:=a4.out;omega);have M:=Z (show R=.ok (AQ ([z,F]++[N])).1.length b4 (Bf ([z,F]++[N]) { kind:=10 }) by
      rw[cN.out];have ce:=DU (ps:=[z,F]) cR;unfold Bf;rw[ce];show PR.ok _ _ _=PR.ok _ _ _;rw[Iq _ _ (by omega),cS];have:(N.length:Int)-1+((AQ [z,F]).1.length:Int)=(((AQ [z,F]).1.length+N.length:Nat):Int)-1:=(by omega);rw[this];rfl)
     obtain⟨aH,ac,ae⟩:=bb.out.parts;have aU:=Z (show Own ba 22 1 (.slice (some ⟨aQ,0,none⟩) 2 2) 2 aH 0 from ac);have cf:=Z ae;clear aG aB bq cR cS du dv aW ac ae;go_upto_region 15 with(at_builtin;refine AV 22 (.slice none 0 0) 1 24 underlying110 GN rfl (.slice (some ⟨aQ,0,none⟩) 2 2) 2 aH 0 _ 1 [.slice aI N.length aJ] rfl rfl (Own.alloc aU.out _) (by omega) (KI _ _ aI N.length aJ rfl) (by unfold maxLen;omega) (by omega) ?_;intro cO cd ar aC aV _;(have ak:=Z (KU.app bb.out aU.out cf.out _ aX.out.1 aX.out.2.1 aX.out.2.2.2 ar aC aV));(obtain⟨cP,cQ,rfl,_,_⟩:=Own.form ar);clear ar aC aV);obtain⟨I,ab⟩:=U ([z,F]++[N]);have aK:=Z (show I.length<=1000 by rw[<-ab];show 3<=1000;omega);rw[ab]at ak M au;clear ab;have J:=Z ak.out.st;have K:=Z ak.out.gr;have aY:=Z ak.out.parts;have aw:=Z ak.out.kb;have bc:=Z (show BP I<=60000 by have:=au.out;omega);have bd:=Z (show BP I<=10000 by have:=au.out;omega);obtain⟨aF,a,bD,h,ai,aj⟩:=J.out;obtain⟨ao,ap,aq,c3,c4⟩:=h.cells;have lb:=h.lb;have al:=Z (bG.out I { kind:=10 } _ _ K.out.size aY.out.S (Dt 10) rfl aw.out bc.out (by have:=aK.out;omega));unfold Fo AU sv at al;simp only[]at al;have be:=Z (Dg (ps:=I) (n:= { kind:=10 }) aw.out (by have:=aK.out;omega) rfl);have bf:=Z (show(Bf I { kind:=10 }).length<=50000 by rw[Cf];have:=bd.out;omega);clear h ai aj;go_wp2_with fail;refine al.out.mono ?_;rintro e cT ⟨v,rfl,am,aL,an⟩;obtain⟨aI,aJ,rfl,_⟩:=am.form;have bg:=Z am;have bh:=Z (fun g aP=>E0 K.out.size (aL g aP));have bi:=Z (J.out.grown an);have bj:=Z (AJ K.out (Bt an));clear am aL an;go_wp2_with fail;rw[M.out];go_ret;exact⟨_,rfl,⟨bg.out,be.out,bf.out,bh.out⟩,bi.out,bj.out⟩
   |false=>
    cases bY with
    |true=>
     have cU:=Z aD.symm;obtain⟨t,r,O⟩:=aA.ne;have aT:t.k≠4:=(GL (O▸cU.out)).1;have a8:G.tail=r:=(by rw[O];rfl);obtain⟨aF,a,bD,h,ai,aj⟩:=af.out;obtain⟨ao,ap,aq,c3,c4⟩:=h.cells;have lb:=h.lb;have b9:=Y.frozen h.BF 1;have b':(a:Int)<=500:=(by have:=h.lt;have:=h.tg.len;omega);have ca:=Z (BU.next h ai aj O aT);have a9:Good r:=(O▸aA:Good (t::r)).tail aT;have cV:Wl r:=(O▸a7:Wl (t::r)).tail;have a4:=Z (show r.length+1=G.length by rw[O];rfl);have cb:=Z (show R=((Al d3 r (AQ [z,F]).1).bind fun c ts ns=>(AX IH ts ns).bind fun _ ts ns=>Ao { kind:=10,kids:=(AQ [z,F]).2++[c] } ts ns) by rw[b7.out,AP (by rw[<-az];decide),Ai cU.out,a8,b8.out];rfl);have bk:Cn R d3 n (BP [z,F]) (fun G=>(Al d3 G (AQ [z,F]).1).bind fun c ts ns=>(AX IH ts ns).bind fun _ ts ns=>Ao { kind:=10,kids:=(AQ [z,F]).2++[c] } ts ns) (.ok r d3):=⟨rfl,cb.out,by have:=bC.out;have:=a4.out;omega,by have:=b6.out.1;have:=a4.out;omega,a9,cV⟩;have dw:=Z bk;clear h ai aj O aT a8 bz b2 bA aA a7 az aD a9 cV bk;go_upto_region 13 with(fail);have a':=AN (AB aR (some rb)) (p:=⟨rb,1,none⟩) (.inl rfl) (.int .i64 ((a:Int)+1));have W:=Z (aS.out.step a' ca.out);generalize aR.setCell ⟨rb,1,none⟩ (.int .i64 ((a:Int)+1))=cc at W⊢;clear a' ao ap aq c3 c4 lb b9 b';have dx:=Z (bo.out (BP [z,F]) [z,F] _ _ cc W.out.st dw.out);go_wp2_with fail;refine dx.out.mono ?_;rintro e ba ⟨v,N,cg,rfl,aW,aG,aB,cW,cX,cY,_,_⟩;obtain⟨aI,aJ,rfl⟩:=aW.form;have bb:=Z (W.out.step aB aG);have aX:=Z (aW.low W.out.gr.size);have dy:=Z (BC cX cY);have dz:=Z cW;obtain⟨aH,ac,ae⟩:=bb.out.parts;have aU:=Z (show Own ba 22 1 (.slice (some ⟨aQ,0,none⟩) 2 2) 2 aH 0 from ac);have cf:=Z ae;clear aG aB aW cW cX cY ac ae;go_upto_region 14 with(at_builtin;refine AV 22 (.slice none 0 0) 1 24 underlying110 GN rfl (.slice (some ⟨aQ,0,none⟩) 2 2) 2 aH 0 _ 1 [.slice aI N.length aJ] rfl rfl (Own.alloc aU.out _) (by omega) (KI _ _ aI N.length aJ rfl) (by unfold maxLen;omega) (by omega) ?_;intro cO cd ar aC aV _;(have ak:=Z (KU.app bb.out aU.out cf.out _ aX.out.1 aX.out.2.1 aX.out.2.2.2 ar aC aV));(obtain⟨cP,cQ,rfl,_,_⟩:=Own.form ar);clear ar aC aV);have aZ:=Z (Cn.IN dz.out);obtain⟨ch,a0⟩:=U (CG IH cg);have ag:=Z (a5.out cd cg IH ak.out.st);rw[a0]at ag aZ;have cZ:=Z a0;unfold IH sv at ag;clear a0;go_wp2_with fail;refine ag.out.mono ?_;rintro e dA ⟨rfl,bl,a1⟩;have J:=Z bl;have K:=Z (AJ ak.out.gr a1);have aY:=Z (ak.out.parts.M6 a1 ak.out.st.AO);clear bl a1;cases ch with
     |er aE ad=>
      have M:=Z (show R=.bad aE ad from aZ.out);obtain⟨aF,i,b0,h,ah⟩:=J.out;obtain⟨ao,ap,aq,c3,c4⟩:=h.cells;have lb:=h.lb;have b1:(ad !=0)=true:=JY ah;clear h ah;go_wp2_with fail;rw[M.out];go_ret;exact⟨_,rfl,rfl,J.out,K.out⟩
     |ok ci d6=>
      have dB:=Z (show N≠[] by
       cases c0:cg with
       |ok dC d5=>exact dy.out.1 dC d5 c0
       |er a k=>have:=cZ.out;rw[c0]at this;cases this)
      obtain⟨cj,bm,ck,_⟩:=aZ.out;subst cj;have M:=Z (show R=.ok (AQ ([z,F]++[N])).1.length ci (Bf ([z,F]++[N]) { kind:=10 }) by
       rw[bm];have ce:=DU (ps:=[z,F]) dB.out;unfold Bf;rw[ce];rfl)
      have au:=Z (show BP ([z,F]++[N])<=5000 by rw[Eb];omega);have aw:=Z ak.out.kb;obtain⟨I,ab⟩:=U ([z,F]++[N]);have aK:=Z (show I.length<=1000 by rw[<-ab];show 3<=1000;omega);rw[ab]at aY M au aw;clear ab bm ck;have bc:=Z (show BP I<=60000 by have:=au.out;omega);have bd:=Z (show BP I<=10000 by have:=au.out;omega);obtain⟨aF,a,bD,h,ai,aj⟩:=J.out;obtain⟨ao,ap,aq,c3,c4⟩:=h.cells;have lb:=h.lb;have al:=Z (bG.out I { kind:=10 } _ _ K.out.size aY.out.S (Dt 10) rfl aw.out bc.out (by have:=aK.out;omega));unfold Fo AU sv at al;simp only[]at al;have be:=Z (Dg (ps:=I) (n:= { kind:=10 }) aw.out (by have:=aK.out;omega) rfl);have bf:=Z (show(Bf I { kind:=10 }).length<=50000 by rw[Cf];have:=bd.out;omega);clear h ai aj;go_wp2_with fail;refine al.out.mono ?_;rintro e cT ⟨v,rfl,am,aL,an⟩;obtain⟨aI,aJ,rfl,_⟩:=am.form;have bg:=Z am;have bh:=Z (fun g aP=>E0 K.out.size (aL g aP));have bi:=Z (J.out.grown an);have bj:=Z (AJ K.out (Bt an));clear am aL an;go_wp2_with fail;rw[M.out];go_ret;exact⟨_,rfl,⟨bg.out,be.out,bf.out,bh.out⟩,bi.out,bj.out⟩
    |false=>
     have bk:Cn R d3 n (BP [z,F]) (fun G=>(AX IH G (AQ [z,F]).1).bind fun _ ts ns=>Ao { kind:=10,kids:=(AQ [z,F]).2 } ts ns) (.ok G d3):=⟨rfl,by rw[b7.out,AP (by rw[<-az];decide),AP (by rw[<-aD];decide),b8.out],bC.out,b6.out.1,aA,a7⟩;have aZ:=Z (Cn.IN bk);clear bz b2 bA aA a7 az aD bk;obtain⟨ch,a0⟩:=U (CG IH (.ok G d3));have ag:=Z (a5.out aR (.ok G d3) IH aS.out.st);rw[a0]at ag aZ;have cZ:=Z a0;unfold IH sv at ag;clear a0;go_wp2_with fail;refine ag.out.mono ?_;rintro e dA ⟨rfl,bl,a1⟩;have J:=Z bl;have K:=Z (AJ aS.out.gr a1);have aY:=Z (aS.out.parts.M6 a1 aS.out.st.AO);clear bl a1;cases ch with
     |er aE ad=>
      have M:=Z (show R=.bad aE ad from aZ.out);obtain⟨aF,i,b0,h,ah⟩:=J.out;obtain⟨ao,ap,aq,c3,c4⟩:=h.cells;have lb:=h.lb;have b1:(ad !=0)=true:=JY ah;clear h ah;go_wp2_with fail;rw[M.out];go_ret;exact⟨_,rfl,rfl,J.out,K.out⟩
     |ok ci d6=>
      obtain⟨cj,bm,ck,_⟩:=aZ.out;subst cj;have M:=Z (show R=.ok (AQ [z,F]).1.length ci (Bf [z,F] { kind:=10 })from bm);have aw:=Z aS.out.kb;obtain⟨I,ab⟩:=U ([z,F]);have aK:=Z (show I.length<=1000 by rw[<-ab];show 2<=1000;omega);have au:=Z (show BP I<=5000 by rw[<-ab];have:=bC.out;omega);have dI:=Z (show I.length=2 by rw[<-ab];rfl);rw[ab]at aY M aw;clear ab bm ck;have bc:=Z (show BP I<=60000 by have:=au.out;omega);have bd:=Z (show BP I<=10000 by have:=au.out;omega);obtain⟨aF,a,bD,h,ai,aj⟩:=J.out;obtain⟨ao,ap,aq,c3,c4⟩:=h.cells;have lb:=h.lb;have al:=Z (bG.out I { kind:=10 } _ _ K.out.size aY.out.S (Dt 10) rfl aw.out bc.out (by have:=aK.out;omega));unfold Fo AU sv at al;simp only[]at al;have be:=Z (Dg (ps:=I) (n:= { kind:=10 }) aw.out (by have:=aK.out;omega) rfl);have bf:=Z (show(Bf I { kind:=10 }).length<=50000 by rw[Cf];have:=bd.out;omega);clear h ai aj;go_wp2_with fail;refine al.out.mono ?_;rintro e cT ⟨v,rfl,am,aL,an⟩;obtain⟨aI,aJ,rfl,_⟩:=am.form;have bg:=Z am;have bh:=Z (fun g aP=>E0 K.out.size (aL g aP));have bi:=Z (J.out.grown an);have bj:=Z (AJ K.out (Bt an));clear am aL an;go_wp2_with fail;rw[M.out];go_ret;exact⟨_,rfl,⟨bg.out,be.out,bf.out,bh.out⟩,bi.out,bj.out⟩
end Go.Proofs.YtdhfhphbkfgamaaGreat
