/- PrintTells: a part of its proof. -/
import Derived.Deep.CutBlock
import Derived.Test.YtdhfhphbkfgamaaGreatPj
set_option maxRecDepth 100000
set_option maxHeartbeats 64000000
namespace Go.Proofs.YtdhfhphbkfgamaaGreat
open Go.RowKit Lx
def Iz (k:List Int×Bool) (ts:List AX) (ns:List V):PR Int:=match k.1 with
 |[x]=>if k.2=true then An { kind:=6,kids:=[x] } (AG ts) ns else .ok x (AG ts) ns
 |l=>An { kind:=6,kids:=l } (AG ts) ns
theorem Qt (h:C4) (ts:List AX) (ns:List V):GM h ts ns=(CY h (ts.length+1) [] false (AG ts) ns).bind Iz:=rfl
theorem FJ.nil {av:Nat→Prop} {base:Nat→Prop} {rb d:Nat} {w h:World} {T:List AX} {ns:List V} (z:CM av base h rb T ns d) (F:Fr base w h):FJ av base w h rb T ns d (.slice none 0 0) []:=
 ⟨z.mono (fun k hk=>by rcases hk with hk|hk;exact hk;cases hk),Own.nil _ _ _ _,fun b G=>(by cases G),F⟩
theorem FJ.grown {av:Nat→Prop} {base:Nat→Prop} {rb d:Nat} {w h z:World} {v:Value} {T:List AX} {ns:List V} {F:List Int} (G:FJ av base w h rb T ns d v F) (I:h.grownBy z none):FJ av base w z rb T ns d v F:=G.step (G.r.grown I) (Fr.AL I)
theorem TX (n:Nat) (K:EO) (bl: ∀d,Ju 3 (K d)) (bm:Qa 62 K n):Qa 30 (fun d=>GM (K d)) n:=by
 intro av base rb d ts ns w bn L bo;have b3:=Z (fun av base rb d ts ns w a b c=>bm av base rb d ts ns w a b c);have b4:=Z (bl d);have aX:=Z bn;have aw:=Z (fun av w ts ns s (L:CM av base w rb ts ns d)=>Kj s L);have aG:=Z (fun av w ts ns (L:CM av base w rb ts ns d)=>GV L);have b5:=Z (fun av w ts ns (L:CM av base w rb ts ns d)=>Aa av base rb d ts ns w L);have aY:=Z (fun av w ts ns n a b r p k L bo aH=>GZ av base rb d ts ns n a b r p k w L bo aH);unfold Al IY at aw;unfold Al Ch at aG;unfold Al CZ An at aY;unfold sv at aw;show Calls Tryz.prog 30 #[.pointer (some ⟨rb,0,none⟩)] w (Al CZ av base w rb d (GM (K d) ts ns));rw[Qt];have ah:=Ad L.Aj;have bp:=Z (aG.out av w ts ns L);obtain⟨aZ,a0⟩: ∃T,AG ts=T:=⟨_,rfl⟩;rw[a0]at bp ah;rw[a0];obtain⟨R,ap⟩: ∃R,(CY (K d) (ts.length+1) [] false aZ ns).bind Iz=R:=⟨_,rfl⟩;have b6:=Z ap;rw[ap];have a1:=Z ah.2;have b7:=Z L;clear bm bl L bn ah a0 ap;go_enter Tryz.func30,Tryz.ntmps30;go_wp2_with fail;refine bp.out.mono ?_;rintro e cx ⟨v,rfl,rfl,bq,br⟩;have aI:=Z (FJ.nil bq br);clear bq br;go_upto_block 0 with(fail);go_cut [3,4] (fun a2 ax ay=> ∃(kids:List Int) (M:Bool) (T:List AX) (W:List V),R=Iz (kids,M) T W∧ax=.bool M∧FJ av base w ay rb T W d a2 kids∧kids≠[]∧W.length+10*T.length+2≤100000);case rest=>
  obtain⟨ai,G,T,W,bs,rfl,a3,bt,bu⟩:=hcut;have az:=Z bs;have a4:=Z a3;have aq:=Z bu;obtain⟨aJ,aK,rfl,cy,_⟩:=Own.form a3.own;clear bs a3 bu;have bv:=Z (aG.out _ _ _ _ a4.out.r);have aj:=(Ad a4.out.r.Aj);obtain⟨ar,a5⟩: ∃ar,AG T=ar:=⟨_,rfl⟩;rw[a5]at bv aj;have b8:=Z aj.2;have aL:=az;unfold Iz at aL;simp only[a5]at aL;clear a5 aj;have cz:=Z bt;clear bt;go_wp2_with fail;refine bv.out.mono ?_;rintro e bw ⟨v,rfl,rfl,I,J⟩;have aA:=Z (a4.out.step I J);clear I J;have bx:=Z aA.out.plain;have bz:=Z aA.out.fr;by_cases aM: ∃y,ai=[y]∧G=false
  ·obtain⟨y,rfl,rfl⟩:=aM;obtain⟨b9,b',cA,a6,_,_,cB,ca⟩:=aA.out.own.some_ (by simp);injection a6 with a6 _ _;subst a6;have cC:bw.cell? ⟨b9,b',none⟩=some (.int .i64 y):=ca 0 (by simp);go_wp2_with fail;rw[aL.out];go_ret;exact⟨_,rfl,rfl,bx.out,bz.out⟩
  ·have cb:=Z (show R=An { kind:=6,kids:=ai } ar W by
    rw[aL.out];cases ai with
    |nil=>rfl
    |cons a l=>cases l with
     |nil=>cases G with
      |true=>rfl
      |false=>exact Ai ⟨a,rfl,rfl⟩ aM
     |cons b l=>rfl)
   have cc:=Z (by have:=aY.out av bw ar W { kind:=6,kids:=ai } (.slice none 0 0) (.slice none 0 0) (.slice none 0 0) (.slice none 0 0) (.slice aJ ai.length aK) bx.out (Mk aA.out.own aA.out.new aX.out 6) (by have:=b8.out;have:=aq.out;omega);unfold AT sv at this;simp only[]at this;exact this);obtain⟨q,cd⟩: ∃q,((ai.length:Int)==1)=q:=⟨_,rfl⟩;have cD:q=true→G=true:=by
    intro e;subst e;cases G with
    |true=>rfl
    |false=>
         exfalso;apply aM;have ce:ai.length=1:=by have:=eq_of_beq cd;omega
         obtain⟨a,cf⟩:=List.length_eq_one_iff.1 ce;exact⟨a,cf,rfl⟩
   clear aM;go_wp2_with (fail);all_goals(refine cc.out.mono ?_;rintro e cE ⟨v,rfl,rfl,cg,ch⟩;have ci:=Z cg;have cj:=Z (bz.out.trans ch);go_wp2_with fail;rw[cb.out];go_ret;(refine⟨_,?_,rfl,ci.out,cj.out⟩;exact E3 (by simp)))
 go_wp2_with fail;go_loopg [3,4] aZ.length (fun g a2 ax wr=> ∃(f:Nat) (kids:List Int) (M:Bool) (T:List AX) (W:List V),(CY (K d) f kids M T W).bind Iz=R∧ax=.bool M∧T.length<f∧T.length≤g∧T.length≤n∧kids.length+T.length≤100000∧FJ av base w wr rb T W d a2 kids);case atStart=>exact⟨_,[],false,aZ,ns,b6.out,rfl,by have:=a1.out;omega,BL _,by have:=a1.out;omega,by have:=a1.out;have:=b7.out.Dy;simp only[List.length_nil];omega,aI.out⟩
 case round=>
  obtain⟨f,kids,M,T,W,ap,rfl,aH,bA,a7,ck,ak⟩:=hrel;have bB:=Z ap;have aI:=Z ak;have al:=Z (A8 aH (A8 bA (A8 a7 ck)));obtain⟨aN,aO,rfl,cF,_⟩:=Own.form ak.own;obtain⟨f,rfl⟩: ∃cl,f=cl+1:=⟨f-1,by omega⟩;have a8:=Z (by have:=b3.out (fun k=>av k∨(Value.slice aN kids.length aO).ownBlock=some k) base rb d T W wr (ak.Ph aX.out) ak.r a7;exact this);have bC:=Z ak.r.Dy;have cm:=Z ak.r.Aj;obtain⟨a9,a'⟩: ∃a9,K d T W=a9:=⟨_,rfl⟩;have ba:=Z a';rw[a']at a8;unfold Al CZ at a8;clear ap aH bA a7 ak a';go_wp2_with fail;refine a8.out.mono ?_;cases a9 with
  |bad a e=>
   rintro e wc ⟨rfl,aP⟩;have aQ:=Z (show R=.bad a _ by rw[←bB.out,CY,ba.out];rfl);refine AR rfl ?_;rw[aQ.out];exact(⟨rfl,aI.out.fr.trans aP⟩:_∧_)
  |ok x aa N=>
   rintro e wc ⟨v,rfl,rfl,bD,aP⟩;have bE:=Z (aI.out.step bD aP);clear bD aP;have ab:=Z (b4.out _ _ _ _ _ cm.out ba.out);have aR:=ab.out.len;have aS:=ab.out.Dy;have aT:=bC.out;have bb:=al.out;obtain⟨z,aB⟩: ∃z,BR aa Cw=z:=⟨_,rfl⟩;have cn:=Z aB;obtain⟨h,aU⟩: ∃h,A3 aa Cw=h:=⟨_,rfl⟩;have co:=Z aU;have bF:=Z (by have:=aw.out _ wc aa N Cw bE.out.r;rw[aB,aU]at this;exact this);unfold Cw at bF;have aC:=Z (show h.length+(if z=true then 1 else 0)=aa.length by
    rw[←aU];unfold A3;rw[aB];cases z with
    |true=>have:=A9 ab.out.Aj aB;simpa using this.2
    |false=>rfl)
   have aQ:=Z (show R=((if(z||BR h Bb||BR h Fu)=true then(if BX (AG (if z=true then h else h.tail))=true then CY (K d) f (kids++[(if z=true then(N.length:Int)else x)]) (M||z) (AG (if z=true then h else h.tail)) (if z=true then N++[{ kind:=7,kids:=[x] }]else N)else .ok (kids++[(if z=true then(N.length:Int)else x)],M||z) (AG (if z=true then h else h.tail)) (if z=true then N++[{ kind:=7,kids:=[x] }]else N))else .ok (kids++[(if z=true then(N.length:Int)else x)],M||z) h (if z=true then N++[{ kind:=7,kids:=[x] }]else N)):PR (List Int×Bool)).bind Iz by
    rw[←bB.out,CY,ba.out,PR.Bj];simp only[cn.out,co.out])
   clear aB aU aR aS aT bb;go_wp2_with fail;refine bF.out.mono ?_;rintro e aV ⟨v,rfl,rfl,bG,bH⟩;have bc:=Z (bE.out.step bG bH);clear bG bH;go_upto_if 13 with(fail);go_cut [4,5] (fun ax cp ay=> ∃(y:Int) (F:List V),ax=.bool (M||z)∧cp=.int .i64 y∧FJ av base w ay rb h F d (.slice aN kids.length aO) kids∧F.length+10*h.length+3≤100000∧R=((if(z||BR h Bb||BR h Fu)=true then(if BX (AG (if z=true then h else h.tail))=true then CY (K d) f (kids++[y]) (M||z) (AG (if z=true then h else h.tail)) F else .ok (kids++[y],M||z) (AG (if z=true then h else h.tail)) F)else .ok (kids++[y],M||z) h F):PR (List Int×Bool)).bind Iz);case first=>
    have aR:=ab.out.len;have aS:=ab.out.Dy;have aT:=bC.out;cases z with
    |true=>
     have aD:=aC.out;rw[Ah rfl]at aD;have bI:=Z (bc.out.grown (AF (AB aV none) (.cells #[.int .i64 x] 3)));have cq:=Z (by have:=aY.out (fun k=>av k∨(Value.slice aN kids.length aO).ownBlock=some k) (aV.alloc (.cells #[.int .i64 x] 3)) h N { kind:=7,kids:=[x] } (.slice none 0 0) (.slice none 0 0) (.slice none 0 0) (.slice none 0 0) (.slice (some ⟨aV.heap.size,0,none⟩) 1 1) bI.out.r (Ij (l:=[x]) (by simp) (Y.new aV 3 _) (bc.out.Ph aX.out) 7 (by simp)) (by omega);unfold AT sv at this;simp only[]at this;exact this);have bd:=Z (show(N++[({ kind:=7,kids:=[x] } :V)]).length+10*h.length+3≤100000 by rw[BE,Cd];omega);clear aR aS aT aD;go_wp2_with fail;refine cq.out.mono ?_;rintro e cG ⟨v,rfl,rfl,bJ,bK⟩;have ae:=Z (bI.out.step bJ bK);clear bJ bK;go_wp2_with fail;go_meet;case rel=>exact⟨_,_,by simp,rfl,ae.out,bd.out,by simpa using aQ.out⟩
    |false=>
     have aD:=aC.out;rw[U (by decide)]at aD;have bd:=Z (show N.length+10*h.length+3≤100000 by omega);clear aR aS aT aD;go_wp2_with fail;go_meet;case rel=>exact⟨x,N,by simp,rfl,bc.out,bd.out,by simpa using aQ.out⟩
   case rest=>
    obtain⟨y,F,rfl,rfl,bL,bM,bN⟩:=hcut;have bO:=Z bL;have aq:=Z bM;have aE:=Z bN;obtain⟨G,ah⟩: ∃G,(M||z)=G:=⟨_,rfl⟩;rw[ah]at aE;simp only[ah];clear bL bM bN ah;have bb:=al.out;go_upto_region 9 with(at_builtin;refine AU 3 (.int .i64 0) 1 8 Tryz.underlying30 BW rfl (.slice aN kids.length aO) kids.length (kids.map (Value.int .i64)) 0 _ 1 [.int .i64 y] rfl rfl (Own.alloc bO.out.own _) (by omega) (Jp _ _ y rfl) (by unfold maxLen;omega) (by omega) ?_;intro cH cI be bP bQ _;(have ae:=Z (bO.out.app _ be bP bQ));obtain⟨aJ,aK,rfl,_,_⟩:=Own.form be;clear be bP bQ bb);go_cut [34] (fun cr ay=> ∃(stop:Bool) (O:List AX),cr=.bool stop∧R=(if stop=true then .ok (kids++[y],G) O F else if BX (AG O)=true then CY (K d) f (kids++[y]) G (AG O) F else .ok (kids++[y],G) (AG O) F:PR (List Int×Bool)).bind Iz∧FJ av base w ay rb O F d (.slice aJ (kids.length+1) aK) (kids++[y])∧O.length≤h.length∧(stop=false→O.length+1≤aa.length));case first=>
     cases z with
     |true=>
      have X:=Z (show h.length+1≤aa.length by have:=aC.out;rw[Ah rfl]at this;omega);have am:=Z (show R=(if BX (AG h)=true then CY (K d) f (kids++[y]) G (AG h) F else .ok (kids++[y],G) (AG h) F:PR (List Int×Bool)).bind Iz by simpa using aE.out);go_wp2_with fail;go_meet;case rel=>exact⟨false,h,rfl,am.out,ae.out,BL _,fun _=>X.out⟩
     |false=>
      have bR:=Z (show h.length=aa.length by have:=aC.out;rw[U (by decide)]at this;omega);obtain⟨s1,ac⟩: ∃s1,BR h Bb=s1:=⟨_,rfl⟩;have ad:=Z (by have:=aw.out _ _ h F Bb ae.out.r;rw[ac]at this;exact this);have bS:=Z ae.out.r.Aj;cases s1 with
      |true=>
       have ad:=Z (by have:=ad.out;rw[show A3 h Bb=h.tail from Ah ac]at this;exact this);unfold Bb at ad;have am:=Z (show R=(if BX (AG h.tail)=true then CY (K d) f (kids++[y]) G (AG h.tail) F else .ok (kids++[y],G) (AG h.tail) F:PR (List Int×Bool)).bind Iz by have:=aE.out;rw[ac]at this;simpa using this);have X:=Z (show h.tail.length+1≤aa.length by have:=(A9 bS.out ac).2;have:=bR.out;omega);clear ac;go_wp2_with fail;refine ad.out.mono ?_;rintro e aF ⟨v,rfl,rfl,I,J⟩;have an:=Z (ae.out.step I J);clear I J;go_wp2_with fail;go_meet;case rel=>exact⟨false,h.tail,rfl,am.out,an.out,by simp,fun _=>X.out⟩
      |false=>
       have ad:=Z (by have:=ad.out;rw[show A3 h Bb=h from by unfold A3;rw[ac];rfl]at this;exact this);unfold Bb at ad;obtain⟨s2,af⟩: ∃s2,BR h Fu=s2:=⟨_,rfl⟩;have ag:=Z (fun aF (L:CM (fun k=>av k∨(Value.slice aJ (kids.length+1) aK).ownBlock=some k) base aF rb h F d)=>by have:=aw.out _ aF h F Fu L;rw[af]at this;exact this);cases s2 with
       |true=>
        have ag:=Z (by have:=ag.out;rw[show A3 h Fu=h.tail from Ah af]at this;exact this);unfold Fu at ag;have am:=Z (show R=(if BX (AG h.tail)=true then CY (K d) f (kids++[y]) G (AG h.tail) F else .ok (kids++[y],G) (AG h.tail) F:PR (List Int×Bool)).bind Iz by have:=aE.out;rw[ac,af]at this;simpa using this);have X:=Z (show h.tail.length+1≤aa.length by have:=(A9 bS.out af).2;have:=bR.out;omega);clear ac af;go_wp2_with fail;refine ad.out.mono ?_;rintro e aF ⟨v,rfl,rfl,I,J⟩;have an:=Z (ae.out.step I J);clear I J;have bf:=Z (ag.out _ an.out.r);go_wp2_with fail;refine bf.out.mono ?_;rintro e cs ⟨v,rfl,rfl,I,J⟩;have bg:=Z (an.out.step I J);clear I J;go_wp2_with fail;go_meet;case rel=>exact⟨false,h.tail,rfl,am.out,bg.out,by simp,fun _=>X.out⟩
       |false=>
        have ag:=Z (by have:=ag.out;rw[show A3 h Fu=h from by unfold A3;rw[af];rfl]at this;exact this);unfold Fu at ag;have az:=Z (show R=(.ok (kids++[y],G) h F:PR (List Int×Bool)).bind Iz by have:=aE.out;rw[ac,af]at this;simpa using this);clear ac af;go_wp2_with fail;refine ad.out.mono ?_;rintro e aF ⟨v,rfl,rfl,I,J⟩;have an:=Z (ae.out.step I J);clear I J;have bf:=Z (ag.out _ an.out.r);go_wp2_with fail;refine bf.out.mono ?_;rintro e cs ⟨v,rfl,rfl,I,J⟩;have bg:=Z (an.out.step I J);clear I J;go_wp2_with fail;go_meet;case rel=>exact⟨true,h,rfl,az.out,bg.out,BL _,fun e=>by cases e⟩
    case rest=>
     obtain⟨stop,O,rfl,bT,bU,bV,bW⟩:=hcut;have bX:=Z bT;have aW:=Z bU;have bh:=Z bV;have ct:=Z bW;clear bT bU bV bW;have cJ:=Z (show h.length≤aa.length by have:=aC.out;split at this<;>omega);cases stop with
     |true=>
      go_wp2_with fail;go_meet;case rel=>exact⟨_,G,O,F,bX.out,rfl,aW.out,by simp,by have:=aq.out;have:=bh.out;omega⟩
     |false=>
      have am:=Z (show R=(if BX (AG O)=true then CY (K d) f (kids++[y]) G (AG O) F else .ok (kids++[y],G) (AG O) F:PR (List Int×Bool)).bind Iz from bX.out);have X:=Z (ct.out rfl);go_wp2_with fail;have bY:=Z (aG.out _ _ _ _ aW.out.r);have bi:=Ad aW.out.r.Aj;obtain⟨au,bj⟩: ∃ar,AG (O)=ar:=⟨_,rfl⟩;rw[bj]at bY bi;have ao:=Z bi.2;have cu:=Z (by have:=am.out;rw[bj]at this;exact this);clear bj bi;refine bY.out.mono ?_;rintro e cv ⟨v,rfl,rfl,I,J⟩;have bZ:=Z (aW.out.step I J);clear I J;obtain⟨bk,aj⟩: ∃bk,BX au=bk:=⟨_,rfl⟩;have cw:=Z (by have:=b5.out _ cv au F bZ.out.r;rw[aj]at this;exact this);have b0:=Z (by have:=cu.out;rw[aj]at this;exact this);clear aj;go_wp2_with fail;refine cw.out.mono ?_;rintro e cK ⟨rfl,b1⟩;have b2:=Z (bZ.out.grown b1);clear b1;cases bk with
      |true=>
       go_wp2_with fail;go_roundg (gk-1);case rel=>exact⟨f,_,G,au,F,by have:=b0.out;exact this.symm,rfl,by have:=ao.out;have:=X.out;have:=ab.out.len;have:=al.out;omega,by have:=ao.out;have:=X.out;have:=ab.out.len;have:=al.out;omega,by have:=ao.out;have:=X.out;have:=ab.out.len;have:=al.out;omega,by have:=ao.out;have:=X.out;have:=ab.out.len;have:=al.out;simp only[BE,Cd];omega,b2.out⟩
       case measure=>have:=ao.out;have:=X.out;have:=ab.out.len;have:=al.out;omega
      |false=>
       have az:=Z (show R=Iz (kids++[y],G) au F from b0.out);have aq:=Z (show F.length+10*au.length+2≤100000 by have:=ao.out;have:=bh.out;have:=aq.out;omega);go_wp2_with fail;go_meet;case rel=>exact⟨_,G,au,F,az.out,rfl,b2.out,by simp,by have:=aq.out;have:=ao.out;have:=bh.out;omega⟩
end Go.Proofs.YtdhfhphbkfgamaaGreat
