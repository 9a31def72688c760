/- PrintTells: a part of its proof. -/
import Derived.Test.YtdhfhphbkfgamaaGreatEl
set_option maxRecDepth 100000
set_option maxHeartbeats 64000000
namespace Go.Proofs.YtdhfhphbkfgamaaGreat
open Go.RowKit Lx
def Cg {α:Type} (R:PR α) (d n tot:Nat) (C:List AX→PR α):DS→Prop
 | .ok h z=>z=d∧R=C h∧tot+10*h.length≤5000∧h.length≤n∧Good h∧Wl h
 | .er a k=>R=.bad a k
section
variable {α β:Type} {R:PR α} {d n tot:Nat}
theorem Cg.next {C:List AX→PR α} {t:AX} {r:List AX} {z:Nat} {F:List AX→PR α} (h:Cg R d n tot C (.ok (t::r) z)) (hk:t.k≠4) (G:C (t::r)=F r):Cg R d n tot F (.ok r z):=
 ⟨h.1,h.2.1.trans G,by have:=h.2.2.1;simp only[BP]at this;omega,by have:=h.2.2.2.1;simp only[BP]at this;omega,h.2.2.2.2.1.tail hk,h.2.2.2.2.2.tail⟩
theorem Cg.Hj {s:List UInt8} {ns:List V} {f:Unit→List AX→List V→PR α} {z:DS} (G:Cg R d n tot (fun h=>(AW s h ns).bind f) z):Cg R d n tot (fun h=>f () h ns) (CG s z):=by
 cases z with
 |er a k=>exact G
 |ok h O=>
  obtain⟨K,I,L,M,J,N⟩:=G;obtain⟨t,r,rfl⟩:=J.ne;show Cg R d n tot _ (if BR (t::r) s=true then _ else _);cases F:BR (t::r) s with
  |true=>
   rw[Ah rfl];refine Cg.next (C:=fun h=>(AW s h ns).bind f) ⟨K,I,L,M,J,N⟩ (Fx F).1 ?_;show(AW s (t::r) ns).bind f=f () r ns;unfold AW;rw[Ah F];rfl
  |false=>
   rw[U (by decide)];show R=PR.bad t.a _;rw[I];show(AW s (t::r) ns).bind f=_;unfold AW;rw[U (by rw[F];decide)];rfl
theorem Cg.breaks {C:List AX→PR α} {F:DS} (z:Cg R d n tot (fun h=>C (AG h)) F):Cg R d n tot C (B3 F):=by
 cases F with
 |er a k=>exact z
 |ok h M=>
  obtain⟨G,I,N,O,J,K⟩:=z;have L:=Ad J;refine⟨G,I,by omega,by omega,L.1,?_⟩;have: ∀h:List AX,Wl h→Wl (AG h):=by
   intro h;induction h with
   |nil=>intro z;exact z
   |cons t r ih=>
    intro z;rw[AG];split
    ·exact ih z.2.2.2
    ·exact z
  exact this h K
theorem Cg.WJ {C:List AX→PR α} {h:DS} (G:Cg R d n tot C h) {s:List UInt8} (hs:s∉Dr):(∃z F,h=.ok z F∧Kz h s=BR z s)∨(∃a k,h=.er a k∧Kz h s=false):=by
 cases h with
 |er a k=>exact .inr ⟨a,k,rfl,rfl⟩
 |ok z F=>exact .inl ⟨z,F,rfl,(G.2.2.2.2.2.WJ hs).symm⟩
end
def MP (Ak:EO) (n:Nat):Prop:= ∀(α:Type) (R:PR α) (rb:Nat) (T:List AX) (d tot:Nat) (ps:List (List V)) (f:Int→List AX→List V→PR α) (F:DS) (w:World),BS w rb T F→Cg R d n tot (fun h=>(Ak d h (AP ps).1).bind f) F→
 Calls Tryz.prog 48 #[.pointer (some ⟨rb,0,none⟩)] w fun e w'=> ∃v ms z,e=.returned v∧Fe w w' ms v∧BS w' rb T z∧w.grownBy w' (some rb)∧Cg R d n (tot+ms.length) (fun h=>f ((((AP ps).1.length+ms.length:Nat):Int)-1) h (AP (ps++[ms])).1) z∧(∀h G,z=.ok h G→ms≠[])∧ms.length≤5000∧(∀h G I J,F=.ok h G→z=.ok I J→I.length+1≤h.length)∧(∀a k,F=.er a k→z=.er a k)
theorem Rt {Ak:EO} {n:Nat} (ae:FF 2 Ak) (af:GX Ak) (ag:Qw LJ 48 Ak n):MP Ak n:=by
 intro α R rb T d tot ps f ah w aa hs;cases ah with
 |er a k=>
  refine(Ql rb T a k w aa).mono ?_;rintro e w' ⟨rfl,ai,aj⟩;exact⟨_,[],.er a k,rfl,Fe.nil w w',ai,aj,hs,(fun z h e=>by cases e),by simp,(fun z h F ak e=>by cases e),fun a k e=>e⟩
 |ok z h=>
  obtain⟨rfl,ab,ao,al,am,ap⟩:=hs;refine(ag rb T h z w aa al).mono ?_;intro e w' G;have I:=Ik (af h) z (AP ps).1;cases K:Ak h z []with
  |bad a k=>
   rw[K]at G I;obtain⟨v,L,M,J,N⟩:=G;subst L M;refine⟨_,[],.er a k,rfl,Fe.nil w w',J,N,?_,(fun z h e=>by cases e),by simp,(fun z h F ak _ e=>by cases e),fun a k e=>by cases e⟩;show R=PR.bad a k;rw[ab];show(Ak h z (AP ps).1).bind f=_;rw[I];rfl
  |ok x F ms=>
   rw[K]at G I;obtain⟨v,L,M,J,N⟩:=G;subst L;have O:=ae h _ _ _ _ _ am K;obtain⟨ac,an,aq,ar⟩:=O.ne;have ad:=J.Aj;refine⟨v,ms,.ok F h,rfl,M,J,N,⟨rfl,?_,by omega,by have:=O.len;omega,ad.1,ad.2.1⟩,fun _ _ _=>ac,by omega,fun au aw ax ay W X=>?_,fun a k e=>by cases e⟩
   ·rw[ab];show(Ak h z (AP ps).1).bind f=_;rw[I,DG ac];show f (EW (AP ps).1.length x) F (Ek (AP ps).1 ms)=_;rw[IN _ _ (by omega),an];have:(ms.length:Int)-1+((AP ps).1.length:Int)=(((AP ps).1.length+ms.length:Nat):Int)-1:=(by omega);rw[this]
   ·injection W with W _;injection X with X _;subst W X;exact O.len
theorem Ln {s:List UInt8} {z I:List AX} {J K:Nat} (h:CG s (.ok z J)=.ok I K):I.length≤z.length∧K=J:=by
 unfold CG at h;simp only[]at h;split at h
 ·injection h with F G;rw[←F,←G,List.length_tail];exact⟨by omega,rfl⟩
 ·cases z with
  |nil=>injection h with F G;rw[←F,←G];exact⟨BL _,rfl⟩
  |cons t r=>cases h
theorem N4:Gr∉Dr∧FN∉Dr∧FC∉Dr∧E8∉Dr∧EA∉Dr∧BU∉Dr∧Cv∉Dr∧FZ∉Dr∧C7∉Dr:=by decide
theorem Lh {a b:List V} (h:a≠[]) (z:b≠[]):AP [a,b]=((AP ([a]++[b])).1,[(((AP []).1.length+a.length:Nat):Int)-1,(((AP [a]).1.length+b.length:Nat):Int)-1]):=by
 have F:=DG (ps:=[]) h;have G:=DG (ps:=[a]) z;show AP ([a]++[b])=_;rw[G];have I:(AP [a]).2=[(((AP []).1.length+a.length:Nat):Int)-1]:=by
  show(AP ([]++[a])).2=_;rw[F];rfl
 rw[I];rfl
theorem Z0n {P:Prop} (h:P:=by
 have bd:=Z (show BO I≤60000 by have:=aw.out;omega);have be:=Z (show BO I≤10000 by have:=aw.out;omega);obtain⟨aG,a,bF,h,aj,ak⟩:=J.out;obtain⟨ap,aq,ar,c3,c4⟩:=h.cells;have lb:=h.lb;have am:=Z (bI.out I { kind:=10 } _ _ K.out.size aZ.out.S (Dm 10) rfl ax.out bd.out (by have:=aL.out;omega));unfold FO AT sv at am;simp only[]at am;have bf:=Z (DU (ps:=I) (n:= { kind:=10 }) ax.out (by have:=aL.out;omega) rfl);have bg:=Z (show(Bc I { kind:=10 }).length≤50000 by rw[Cb];have:=be.out;omega);clear h aj ak;go_wp2_with fail;refine am.out.mono ?_;rintro e cW ⟨v,rfl,an,aM,ao⟩;obtain⟨aJ,aK,rfl,_⟩:=an.form;have bh:=Z an;have bi:=Z (fun g aQ=>Ef K.out.size (aM g aQ));have bj:=Z (J.out.grown ao);have bk:=Z (AJ K.out (Bp ao));clear an aM ao;go_wp2_with fail;rw[M.out];go_ret;exact⟨_,rfl,⟨bh.out,bf.out,bg.out,bi.out⟩,bj.out,bk.out⟩):P:=h
theorem Z0o {P:Prop} (h:P:=by
 obtain⟨aG,i,b2,h,ai⟩:=J.out;obtain⟨ap,aq,ar,c3,c4⟩:=h.cells;have lb:=h.lb;have b3:(ae !=0)=true:=JG ai;clear h ai;go_wp2_with fail;rw[M.out];go_ret;exact⟨_,rfl,rfl,J.out,K.out⟩):P:=h
theorem Sy (n:Nat) (Ak:EO) (co:FF 2 Ak) (cp:GX Ak) (cq:MP Ak n): ∀(aa:Nat) (rb:Nat) (T:List AX) (d:Nat) (ts:List AX) (w:World),BS w rb T (.ok ts d)→ts.length≤n→ts.length<aa→Calls Tryz.prog 124 #[.pointer (some ⟨rb,0,none⟩)] w (F0 (Fe w) LJ rb T d w (E5 (Ak d) aa ts [])):=by
 intro aa;induction aa with
 |zero=>intro rb T d ts w _ _ h;omega
 |succ aa ih=>
  intro rb T d ts w h bo hF;have bp:=Z (fun tot ps f aN L ab hs=>cq Int (E5 (Ak d) (aa+1) ts []) rb T d tot ps f aN L ab hs);have c6:=Z (fun ts L ab bq ay=>ih rb T d ts L ab bq ay);have a6:=Z (fun L aN s (ab:BS L rb T aN)=>GJ rb T aN s L ab);have bH:=Z (fun L aN s (ab:BS L rb T aN)=>GL rb T aN s L ab);have bI:=Z (fun ps n c7 L (ab:w.heap.size≤L.heap.size) c8 bo hk c9 c' br=>Fg (low w) ps n c7 (.slice none 0 0) (.slice none 0 0) (.slice none 0 0) (.slice none 0 0) L (fun k hk=>DP hk ab) c8 bo hk c9 c' br);have da:=Z (Jz (co d) aa);have db:=Z (UT (cp d) aa);unfold Qb at bH;unfold Qu at a6;have cr:=Z h.lb;have bJ:=Z h.Aj;have dc:=Z hF;obtain⟨R,bK⟩: ∃R,E5 (Ak d) (aa+1) ts []=R:=⟨_,rfl⟩;rw[bK]at bp⊢;have cs:Cg R d n 0 (fun G=>(Ak d G (AP []).1).bind fun a ts ns=>(AW E8 ts ns).bind fun _ ts ns=>(Ak d ts ns).bind fun b ts ns=>
    if BR ts FN=true then(E5 (Ak d) aa ts.tail ns).bind fun c ts ns=>An { kind:=10,kids:=[a,b,c] } ts ns
    else if BR ts FC=true then(Ak d ts.tail ns).bind fun c ts ns=>(AW Gr ts ns).bind fun _ ts ns=>An { kind:=10,kids:=[a,b,c] } ts ns
    else(AW Gr ts ns).bind fun _ ts ns=>An { kind:=10,kids:=[a,b] } ts ns) (.ok ts d):=
   ⟨rfl,bK.symm,by have:=bJ.out.2.2.2.1;omega,bo,bJ.out.1,bJ.out.2.1⟩
  have dd:=Z (bp.out 0 [] _ _ w h cs);have dI:=Z (show∀G bs,DS.ok ts d=.ok G bs→G=ts from fun G bs e=>by injection e with e _;exact e.symm);clear bK cs h bo hF ih cq co cp;go_enter Tryz.func124,Tryz.ntmps124;go_wp2_with fail;refine dd.out.mono ?_;rintro e de ⟨dJ,z,a3,rfl,bL,bM,ct,cu,cv,cw,cx,cy⟩;obtain⟨bN,ad,rfl⟩:=bL.form;have aO:=Z bL;have df:=Z bM;have dg:=Z ct;have cz:=Z (A8 cv (A8 cw (A8 cx cy)));have dh:=Z cu;have cA:=Z (a6.out de a3 E8 bM);unfold E8 sv at cA;clear bL bM ct cu cv cw cx cy;go_wp2_with fail;refine cA.out.mono ?_;rintro e di ⟨rfl,ay,bO⟩;have aO:=Z (aO.out.rb bO df.out.AN);have cB:=Z (AJ dg.out bO);have bP:=Z ay;have cC:=Z (show Cg R d n (0+z.length) _ (CG E8 a3)from Cg.Hj dh.out);obtain⟨bt,az⟩: ∃s,CG E8 a3=s:=⟨_,rfl⟩;have cD:=Z az;rw[show CG [116,104,101,110] a3=bt from az]at bP;rw[az]at cC;have dj:=Z (bp.out (0+z.length) ([]++[z]) _ bt di bP.out cC.out);clear ay bO az;go_wp2_with fail;refine dj.out.mono ?_;rintro e bu ⟨dK,F,a7,rfl,bQ,bR,bS,bv,cE,cF,cG,cH⟩;obtain⟨bT,af,rfl⟩:=bQ.form;have aO:=Z (aO.out.rb bS bP.out.AN);have bU:=Z (bQ.low cB.out.size);have cI:=Z (AJ cB.out bS);have dL:=Z bR;have bw:=Z (A8 cE (A8 cF (A8 cG cH)));have cJ:=Z bv;have a4:=Z (L8 (w0:=w) aO.out.1 bU.out.1 aO.out.2.2.2 bU.out.2.2.2);have ag:=Z (bR.grown (AF (AB bu none) (.cells #[.slice bN z.length ad,.slice bT F.length af] 22)));have aP:=Z (AF cI.out (.cells #[.slice bN z.length ad,.slice bT F.length af] 22));have cK:=Z (show∀g,(Value.slice (some ⟨bu.heap.size,0,none⟩) 2 2).ownBlock=some g→w.heap.size≤g from fun g aQ=>by simp[Value.ownBlock]at aQ;have:=cI.out.size;omega);have dk:=Z (show∀m∈[z,F],KB m from fun m bx=>by
   rcases List.mem_cons.1 bx with rfl|bx
   ·exact aO.out.2.1
   ·rw[List.mem_singleton]at bx;subst bx;exact bU.out.2.1)
  have bV:=Z (fun L ab=>bH.out L a7 FN ab);have bW:=Z (fun L ab=>bH.out L a7 FC ab);have bX:=Cg.WJ bv N4.2.1;have bY:=Cg.WJ bv N4.2.2.1;obtain⟨bZ,aA⟩: ∃b,Kz a7 FN=b:=⟨_,rfl⟩;obtain⟨b0,aE⟩: ∃b,Kz a7 FC=b:=⟨_,rfl⟩;rw[aA]at bX bV;rw[aE]at bY bW;have b1:=Z (A8 bX bY);unfold FN sv at bV;unfold FC sv at bW;clear bQ bR bS bv cE cF cG cH bX bY aA aE;go_upto_region 5 with(fail);generalize bu.alloc (.cells #[.slice bN z.length ad,.slice bT F.length af] 22)=dl,bu.heap.size=aR at a4 ag aP cK⊢;go_wp2_with fail;refine(bV.out dl ag.out).mono ?_;rintro e dm ⟨rfl,bz⟩;have a4:=Z (a4.out.grown bz);have ag:=Z (ag.out.grown bz);have aP:=Z (AJ aP.out (Bp bz));clear bz;go_wp2_with fail;refine(bW.out dm ag.out).mono ?_;rintro e aS ⟨rfl,bA⟩;have a4:=Z (a4.out.grown bA);have ag:=Z (ag.out.grown bA);have aP:=Z (AJ aP.out (Bp bA));clear bA;cases a7 with
  |er aF ae=>
   obtain⟨rfl,rfl⟩:bZ=false∧b0=false:=by
    obtain⟨bq,ay⟩:=b1.out;refine⟨?_,?_⟩
    ·rcases bq with⟨_,_,e,_⟩|⟨_,_,_,e⟩
     ·cases e
     ·exact e
    ·rcases ay with⟨_,_,e,_⟩|⟨_,_,_,e⟩
     ·cases e
     ·exact e
   have M:=Z (show R=.bad aF ae from cJ.out);have ah:=Z (a6.out aS (.er aF ae) Gr ag.out);unfold Gr CG sv at ah;simp only[]at ah;go_wp2_with fail;refine ah.out.mono ?_;rintro e dM ⟨rfl,cL,cM⟩;have J:=Z cL;have K:=Z (AJ aP.out cM);clear cL cM;exact Z0o
  |ok G N=>
   obtain⟨dn,bB,b4,bC,aB,a8⟩:=cJ.out;subst dn;have aA:bZ=BR G FN:=by
    rcases b1.out.1 with⟨_,_,e,h⟩|⟨_,_,e,_⟩
    ·injection e with e _;rw[h,e]
    ·cases e
   have aE:b0=BR G FC:=by
    rcases b1.out.2 with⟨_,_,e,h⟩|⟨_,_,e,_⟩
    ·injection e with e _;rw[h,e]
    ·cases e
   have dp:=Z (show z≠[] by
    cases a3 with
    |ok b5 b6=>exact cz.out.1 b5 b6 rfl
    |er a k=>
     have ay:bt=.er a k:=(by rw[←cD.out];rfl);have:=bw.out.2.2.2 a k ay;cases this)
   have dq:=Z (bw.out.1 G N rfl);have dr:=Z (show G.length≤ts.length by
    cases az:bt with
    |er a k=>
     have:=bw.out.2.2.2 a k az;cases this
    |ok b7 bs=>
     have bq:=bw.out.2.2.1 b7 bs G N az rfl;have bD:=cD.out;cases b8:a3 with
     |er a k=>rw[b8,az]at bD;cases bD
     |ok b5 b6=>
      have ay:=cz.out.2.2.1 ts N b5 b6 rfl b8;rw[b8,az]at bD;have:=(Ln bD).1;omega)
   have ds:=Z (Lh dp.out dq.out);have bE:=Z (show BO [z,F]+10*G.length≤5000 by show _+(_+0)+_≤_;omega);have aT:=Z (⟨ag.out,a4.out,cK.out,dk.out,aP.out,cr.out⟩:Jr w aS rb T (.ok G N) (.slice (some ⟨aR,0,none⟩) 2 2) [z,F]);have b9:=Z (A8 bC aB);have b':=Z (show R=(if BR G FN=true then(E5 (Ak N) aa G.tail (AP [z,F]).1).bind fun c ts ns=>An { kind:=10,kids:=[(((AP []).1.length+z.length:Nat):Int)-1,(((AP [z]).1.length+F.length:Nat):Int)-1,c] } ts ns
    else if BR G FC=true then(Ak N G.tail (AP [z,F]).1).bind fun c ts ns=>(AW Gr ts ns).bind fun _ ts ns=>An { kind:=10,kids:=[(((AP []).1.length+z.length:Nat):Int)-1,(((AP [z]).1.length+F.length:Nat):Int)-1,c] } ts ns
    else(AW Gr G (AP [z,F]).1).bind fun _ ts ns=>An { kind:=10,kids:=[(((AP []).1.length+z.length:Nat):Int)-1,(((AP [z]).1.length+F.length:Nat):Int)-1] } ts ns)from bB)
   have ca:=Z (show(AP [z,F]).2=[(((AP []).1.length+z.length:Nat):Int)-1,(((AP [z]).1.length+F.length:Nat):Int)-1] by rw[ds.out]);cases bZ with
   |true=>
    have cN:=Z aA.symm;obtain⟨t,r,W⟩:=aB.ne;have aU:t.k≠4:=(Fx (W▸cN.out)).1;have a9:G.tail=r:=(by rw[W];rfl);obtain⟨aG,a,bF,h,aj,ak⟩:=ag.out;obtain⟨ap,aq,ar,c3,c4⟩:=h.cells;have lb:=h.lb;have cb:=Y.frozen h.BD 1;have cc:(a:Int)≤500:=(by have:=h.lt;have:=h.tg.len;omega);have cd:=Z (BS.next h aj ak W aU);have a':Good r:=(W▸aB:Good (t::r)).tail aU;have a5:=Z (show r.length+1=G.length by rw[W];rfl);have ce:=Z (show R=((E5 (Ak N) aa r (AP [z,F]).1).bind fun c ts ns=>An { kind:=10,kids:=(AP [z,F]).2++[c] } ts ns) by rw[b'.out,Ah cN.out,a9,ca.out];rfl);have dt:=Z a';clear h aj ak W aU a9 bB b4 bC aB a8 aA aE a';go_upto_region 10 with(fail);have ba:=AM (AB aS (some rb)) (p:=⟨rb,1,none⟩) (.inl rfl) (.int .i64 ((a:Int)+1));have X:=Z (aT.out.step ba cd.out);generalize aS.setCell ⟨rb,1,none⟩ (.int .i64 ((a:Int)+1))=cf at X⊢;clear ba ap aq ar c3 c4 lb cb cc;have cO:=Z (c6.out r cf X.out.st (by have:=a5.out;have:=b9.out.1;omega) (by have:=a5.out;have:=dc.out;have:=dr.out;omega));obtain⟨cP,bG⟩: ∃P,E5 (Ak N) aa r []=P:=⟨_,rfl⟩;rw[bG]at cO;have du:=Z bG;have cQ:=Z (show R=((cP.mv (AP [z,F]).1 (EW (AP [z,F]).1.length)).bind fun c ts ns=>An { kind:=10,kids:=(AP [z,F]).2++[c] } ts ns) by rw[ce.out,Ik db.out,bG]);clear bG;go_wp2_with fail;refine cO.out.mono ?_;cases cP with
    |bad aF ae=>
     rintro e bb ⟨v,rfl,rfl,aH,aC⟩;obtain⟨aI,ad,af⟩:=X.out.parts.Mb aC X.out.st.AN;have aV:=Z (show Own bb 22 1 (.slice (some ⟨aR,0,none⟩) 2 2) 2 aI 0 from ad);have dv:=Z aH;have dw:=Z (AJ X.out.gr aC);have M:=Z (show R=.bad aF ae from cQ.out);clear aH aC ad af;go_upto_region 15 with(at_builtin;refine AU 22 (.slice none 0 0) 1 24 Tryz.underlying110 F3 rfl (.slice (some ⟨aR,0,none⟩) 2 2) 2 aI 0 _ 1 [.slice none 0 0] rfl rfl (Own.alloc aV.out _) (by omega) (Jl _ _ none 0 0 rfl) (by unfold maxLen;omega) (by omega) ?_;intro cR cg au aD aW _;(have J:=Z ((dv.out.grown (AF (AB _ none) _)).Bl aD (fun k e=>by have:=X.out.new k e;have:=cr.out;omega)));(have K:=Z (Fq dw.out _ aD X.out.new));(obtain⟨cS,cT,rfl,_,_⟩:=Own.form au);clear au aD aW);exact Z0o
    |ok x b7 O=>
     rintro e bb ⟨v,rfl,aX,aH,aC⟩;obtain⟨aJ,aK,rfl⟩:=aX.form;have br:=da.out _ _ _ _ _ dt.out du.out;obtain⟨cU,cV,dx,dy⟩:=br.ne;have bc:=Z (X.out.step aC aH);have aY:=Z (aX.low X.out.gr.size);have aw:=Z (show BO ([z,F]++[O])≤5000 by rw[EM];have:=bE.out;have:=a5.out;omega);have M:=Z (show R=.ok (AP ([z,F]++[O])).1.length b7 (Bc ([z,F]++[O]) { kind:=10 }) by
      rw[cQ.out];have ch:=DG (ps:=[z,F]) cU;unfold Bc;rw[ch];show PR.ok _ _ _=PR.ok _ _ _;rw[IN _ _ (by omega),cV];have:(O.length:Int)-1+((AP [z,F]).1.length:Int)=(((AP [z,F]).1.length+O.length:Nat):Int)-1:=(by omega);rw[this];rfl)
     obtain⟨aI,ad,af⟩:=bc.out.parts;have aV:=Z (show Own bb 22 1 (.slice (some ⟨aR,0,none⟩) 2 2) 2 aI 0 from ad);have ci:=Z af;clear aH aC br cU cV dx dy aX ad af;go_upto_region 15 with(at_builtin;refine AU 22 (.slice none 0 0) 1 24 Tryz.underlying110 F3 rfl (.slice (some ⟨aR,0,none⟩) 2 2) 2 aI 0 _ 1 [.slice aJ O.length aK] rfl rfl (Own.alloc aV.out _) (by omega) (Jl _ _ aJ O.length aK rfl) (by unfold maxLen;omega) (by omega) ?_;intro cR cg au aD aW _;(have al:=Z (Jr.app bc.out aV.out ci.out _ aY.out.1 aY.out.2.1 aY.out.2.2.2 au aD aW));(obtain⟨cS,cT,rfl,_,_⟩:=Own.form au);clear au aD aW);obtain⟨I,ac⟩: ∃P,[z,F]++[O]=P:=⟨_,rfl⟩;have aL:=Z (show I.length≤1000 by rw[←ac];show 3≤1000;omega);rw[ac]at al M aw;clear ac;have J:=Z al.out.st;have K:=Z al.out.gr;have aZ:=Z al.out.parts;have ax:=Z al.out.kb;exact Z0n
   |false=>
    cases b0 with
    |true=>
     have cX:=Z aE.symm;obtain⟨t,r,W⟩:=aB.ne;have aU:t.k≠4:=(Fx (W▸cX.out)).1;have a9:G.tail=r:=(by rw[W];rfl);obtain⟨aG,a,bF,h,aj,ak⟩:=ag.out;obtain⟨ap,aq,ar,c3,c4⟩:=h.cells;have lb:=h.lb;have cb:=Y.frozen h.BD 1;have cc:(a:Int)≤500:=(by have:=h.lt;have:=h.tg.len;omega);have cd:=Z (BS.next h aj ak W aU);have a':Good r:=(W▸aB:Good (t::r)).tail aU;have cY:Wl r:=(W▸a8:Wl (t::r)).tail;have a5:=Z (show r.length+1=G.length by rw[W];rfl);have ce:=Z (show R=((Ak N r (AP [z,F]).1).bind fun c ts ns=>(AW Gr ts ns).bind fun _ ts ns=>An { kind:=10,kids:=(AP [z,F]).2++[c] } ts ns) by rw[b'.out,U (by rw[←aA];decide),Ah cX.out,a9,ca.out];rfl);have bl:Cg R N n (BO [z,F]) (fun G=>(Ak N G (AP [z,F]).1).bind fun c ts ns=>(AW Gr ts ns).bind fun _ ts ns=>An { kind:=10,kids:=(AP [z,F]).2++[c] } ts ns) (.ok r N):=⟨rfl,ce.out,by have:=bE.out;have:=a5.out;omega,by have:=b9.out.1;have:=a5.out;omega,a',cY⟩;have dz:=Z bl;clear h aj ak W aU a9 bB b4 bC aB a8 aA aE a' cY bl;go_upto_region 13 with(fail);have ba:=AM (AB aS (some rb)) (p:=⟨rb,1,none⟩) (.inl rfl) (.int .i64 ((a:Int)+1));have X:=Z (aT.out.step ba cd.out);generalize aS.setCell ⟨rb,1,none⟩ (.int .i64 ((a:Int)+1))=cf at X⊢;clear ba ap aq ar c3 c4 lb cb cc;have dA:=Z (bp.out (BO [z,F]) [z,F] _ _ cf X.out.st dz.out);go_wp2_with fail;refine dA.out.mono ?_;rintro e bb ⟨v,O,cj,rfl,aX,aH,aC,cZ,c0,c1,_,_⟩;obtain⟨aJ,aK,rfl⟩:=aX.form;have bc:=Z (X.out.step aC aH);have aY:=Z (aX.low X.out.gr.size);have dB:=Z (A8 c0 c1);have dC:=Z cZ;obtain⟨aI,ad,af⟩:=bc.out.parts;have aV:=Z (show Own bb 22 1 (.slice (some ⟨aR,0,none⟩) 2 2) 2 aI 0 from ad);have ci:=Z af;clear aH aC aX cZ c0 c1 ad af;go_upto_region 14 with(at_builtin;refine AU 22 (.slice none 0 0) 1 24 Tryz.underlying110 F3 rfl (.slice (some ⟨aR,0,none⟩) 2 2) 2 aI 0 _ 1 [.slice aJ O.length aK] rfl rfl (Own.alloc aV.out _) (by omega) (Jl _ _ aJ O.length aK rfl) (by unfold maxLen;omega) (by omega) ?_;intro cR cg au aD aW _;(have al:=Z (Jr.app bc.out aV.out ci.out _ aY.out.1 aY.out.2.1 aY.out.2.2.2 au aD aW));(obtain⟨cS,cT,rfl,_,_⟩:=Own.form au);clear au aD aW);have a0:=Z (Cg.Hj dC.out);obtain⟨ck,a1⟩: ∃x,CG Gr cj=x:=⟨_,rfl⟩;have ah:=Z (a6.out cg cj Gr al.out.st);rw[a1]at ah a0;have c2:=Z a1;unfold Gr sv at ah;clear a1;go_wp2_with fail;refine ah.out.mono ?_;rintro e dD ⟨rfl,bm,a2⟩;have J:=Z bm;have K:=Z (AJ al.out.gr a2);have aZ:=Z (al.out.parts.Mb a2 al.out.st.AN);clear bm a2;cases ck with
     |er aF ae=>
      have M:=Z (show R=.bad aF ae from a0.out);exact Z0o
     |ok cl dE=>
      have dF:=Z (show O≠[] by
       cases c5:cj with
       |ok dG dH=>exact dB.out.1 dG dH c5
       |er a k=>have:=c2.out;rw[c5]at this;cases this)
      obtain⟨cm,bn,cn,_⟩:=a0.out;subst cm;have M:=Z (show R=.ok (AP ([z,F]++[O])).1.length cl (Bc ([z,F]++[O]) { kind:=10 }) by
       rw[bn];have ch:=DG (ps:=[z,F]) dF.out;unfold Bc;rw[ch];rfl)
      have aw:=Z (show BO ([z,F]++[O])≤5000 by rw[EM];omega);have ax:=Z al.out.kb;obtain⟨I,ac⟩: ∃P,[z,F]++[O]=P:=⟨_,rfl⟩;have aL:=Z (show I.length≤1000 by rw[←ac];show 3≤1000;omega);rw[ac]at aZ M aw ax;clear ac bn cn;exact Z0n
    |false=>
     have bl:Cg R N n (BO [z,F]) (fun G=>(AW Gr G (AP [z,F]).1).bind fun _ ts ns=>An { kind:=10,kids:=(AP [z,F]).2 } ts ns) (.ok G N):=⟨rfl,by rw[b'.out,U (by rw[←aA];decide),U (by rw[←aE];decide),ca.out],bE.out,b9.out.1,aB,a8⟩;have a0:=Z (Cg.Hj bl);clear bB b4 bC aB a8 aA aE bl;obtain⟨ck,a1⟩: ∃x,CG Gr (.ok G N)=x:=⟨_,rfl⟩;have ah:=Z (a6.out aS (.ok G N) Gr aT.out.st);rw[a1]at ah a0;have c2:=Z a1;unfold Gr sv at ah;clear a1;go_wp2_with fail;refine ah.out.mono ?_;rintro e dD ⟨rfl,bm,a2⟩;have J:=Z bm;have K:=Z (AJ aT.out.gr a2);have aZ:=Z (aT.out.parts.Mb a2 aT.out.st.AN);clear bm a2;cases ck with
     |er aF ae=>
      have M:=Z (show R=.bad aF ae from a0.out);exact Z0o
     |ok cl dE=>
      obtain⟨cm,bn,cn,_⟩:=a0.out;subst cm;have M:=Z (show R=.ok (AP [z,F]).1.length cl (Bc [z,F] { kind:=10 })from bn);have ax:=Z aT.out.kb;obtain⟨I,ac⟩: ∃P,[z,F]=P:=⟨_,rfl⟩;have aL:=Z (show I.length≤1000 by rw[←ac];show 2≤1000;omega);have aw:=Z (show BO I≤5000 by rw[←ac];have:=bE.out;omega);have dN:=Z (show I.length=2 by rw[←ac];rfl);rw[ac]at aZ M ax;clear ac bn cn;exact Z0n
end Go.Proofs.YtdhfhphbkfgamaaGreat
