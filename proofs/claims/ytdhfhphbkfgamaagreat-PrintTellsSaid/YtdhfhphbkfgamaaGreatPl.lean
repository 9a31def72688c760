/- A part. -/
import Derived.Deep.CutBlock
import Derived.Test.YtdhfhphbkfgamaaGreatPj
set_option maxRecDepth 100000
set_option linter.all false
set_option maxHeartbeats 0
namespace Go.Proofs.YtdhfhphbkfgamaaGreat
open Go.RowKit Lx Proofs.Tryz
def JZ(k:List Int×Bool)(ts:List AY)(ns:List V):PR Int:=match k.1 with
 |[x]=>if k.2=true then Ao { kind:=6,kids:=[x] } (AG ts) ns else .ok x (AG ts) ns
 |l=>Ao { kind:=6,kids:=l } (AG ts) ns
theorem SU(h:DC)(ts:List AY)(ns:List V):Gm h ts ns=(Cd h (ts.length+1) [] false (AG ts) ns).bind JZ:=rfl
theorem Fh.nil{av:Nat->Prop}{base:Nat->Prop}{rb d:Nat}{w h:World}{T:List AY}{ns:List V}(z:CQ av base h rb T ns d)(F:Fr base w h):Fh av base w h rb T ns d (.slice none 0 0) []:=
 ⟨z.mono (fun k hk=>by rcases hk with hk|hk;exact hk;cases hk),Own.nil _ _ _ _,fun b G=>(by cases G),F⟩
theorem Fh.grown{av:Nat->Prop}{base:Nat->Prop}{rb d:Nat}{w h z:World}{v:Value}{T:List AY}{ns:List V}{F:List Int}(G:Fh av base w h rb T ns d v F)(I:h.grownBy z none):Fh av base w z rb T ns d v F:=G.step (G.r.grown I) (Fr.AL I)
theorem Ug(n:Nat)(K:Eg)(bi:∀d,Ki 3 (K d))(bj:RG 62 K n):RG 30 (fun d=>Gm (K d)) n:=by
 intro av base rb d ts ns w bk L bl;have b1:=Z (fun av base rb d ts ns w a b c=>bj av base rb d ts ns w a b c);have b2:=Z (bi d);have aW:=Z bk;have au:=Z (fun av w ts ns s (L:CQ av base w rb ts ns d)=>Kx s L);have aF:=Z (fun av w ts ns (L:CQ av base w rb ts ns d)=>Gi L);have b3:=Z (fun av w ts ns (L:CQ av base w rb ts ns d)=>Ab av base rb d ts ns w L);have aX:=Z (fun av w ts ns n a b r p k L bl aG=>Hg av base rb d ts ns n a b r p k w L bl aG);unfold Am I9 at au;unfold Am Cr at aF;unfold Am Cg Ao at aX;unfold sv at au;show Calls prog 30 #[.pointer (some ⟨rb,0,none⟩)] w (Am Cg av base w rb d (Gm (K d) ts ns));rw[SU];have ah:=Ae L.Ak;have bm:=Z (aF.out av w ts ns L);obtain⟨aY,aZ⟩:=U (AG ts);rw[aZ]at bm ah;rw[aZ];obtain⟨R,ap⟩:=U ((Cd (K d) (ts.length+1) [] false aY ns).bind JZ);have b4:=Z ap;rw[ap];have a0:=Z ah.2;have b5:=Z L;clear bj bi L bk ah aZ ap;go_enter func30,ntmps30;go_wp2_with fail;refine bm.out.mono ?_;rintro e cw ⟨v,rfl,rfl,bn,bo⟩;have aH:=Z (Fh.nil bn bo);clear bn bo;go_upto_block 0 with(fail);go_cut [3,4] (fun a1 aw ax=> ∃(kids:List Int) (M:Bool) (T:List AY) (W:List V),R=JZ (kids,M) T W/\aw=.bool M/\Fh av base w ax rb T W d a1 kids/\kids≠[]/\W.length+10*T.length+2<=100000);case rest=>
  obtain⟨ai,G,T,W,bp,rfl,a2,bq,br⟩:=hcut;have ay:=Z bp;have a3:=Z a2;have aq:=Z br;obtain⟨aI,aJ,rfl,cx,_⟩:=Own.form a2.own;clear bp a2 br;have bs:=Z (aF.out _ _ _ _ a3.out.r);have aj:=(Ae a3.out.r.Ak);obtain⟨bt,a4⟩:=U (AG T);rw[a4]at bs aj;have b6:=Z aj.2;have aK:=ay;unfold JZ at aK;simp only[a4]at aK;clear a4 aj;have cy:=Z bq;clear bq;go_wp2_with fail;refine bs.out.mono ?_;rintro e bu ⟨v,rfl,rfl,I,J⟩;have az:=Z (a3.out.step I J);clear I J;have bv:=Z az.out.plain;have bw:=Z az.out.fr;by_cases aL:∃y,ai=[y]/\G=false
  ·obtain⟨y,rfl,rfl⟩:=aL;obtain⟨b7,b8,cz,a5,_,_,cA,b9⟩:=az.out.own.some_ (by simp);injection a5 with a5 _ _;subst a5;have cB:bu.cell? ⟨b7,b8,none⟩=some (.int .i64 y):=b9 0 (by simp);go_wp2_with fail;rw[aK.out];go_ret;exact⟨_,rfl,rfl,bv.out,bw.out⟩
  ·have b':=Z (show R=Ao { kind:=6,kids:=ai } bt W by
    rw[aK.out];cases ai with
    |nil=>rfl
    |cons a l=>cases l with
     |nil=>cases G with
      |true=>rfl
      |false=>exact Aj ⟨a,rfl,rfl⟩ aL
     |cons b l=>rfl)
   have ca:=Z (by have:=aX.out av bu bt W { kind:=6,kids:=ai } (.slice none 0 0) (.slice none 0 0) (.slice none 0 0) (.slice none 0 0) (.slice aI ai.length aJ) bv.out (Nl az.out.own az.out.new aW.out 6) (by have:=b6.out;have:=aq.out;omega);unfold AU sv at this;simp only[]at this;exact this);obtain⟨q,cb⟩:=U (((ai.length:Int)==1));have cC:q=true->G=true:=by
    intro e;subst e;cases G with
    |true=>rfl
    |false=>
         exfalso;apply aL;have cc:ai.length=1:=by have:=eq_of_beq cb;omega
         obtain⟨a,cd⟩:=List.length_eq_one_iff.1 cc;exact⟨a,cd,rfl⟩
   clear aL;go_wp2_with (fail);all_goals(refine ca.out.mono ?_;rintro e cD ⟨v,rfl,rfl,ce,cf⟩;have cg:=Z ce;have ch:=Z (bw.out.trans cf);go_wp2_with fail;rw[b'.out];go_ret;(refine⟨_,?_,rfl,cg.out,ch.out⟩;exact FL (by simp)))
 go_wp2_with fail;go_loopg [3,4] aY.length (fun g a1 aw wr=> ∃(f:Nat) (kids:List Int) (M:Bool) (T:List AY) (W:List V),(Cd (K d) f kids M T W).bind JZ=R/\aw=.bool M/\T.length<f/\T.length<=g/\T.length<=n/\kids.length+T.length<=100000/\Fh av base w wr rb T W d a1 kids);case atStart=>exact⟨_,[],false,aY,ns,b4.out,rfl,by have:=a0.out;omega,BN _,by have:=a0.out;omega,by have:=a0.out;have:=b5.out.EG;simp only[CU];omega,aH.out⟩
 case round=>
  obtain⟨f,kids,M,T,W,ap,rfl,aG,bx,a6,ci,ak⟩:=hrel;have bz:=Z ap;have aH:=Z ak;have al:=Z (BC aG (BC bx (BC a6 ci)));obtain⟨aM,aN,rfl,cE,_⟩:=Own.form ak.own;obtain⟨f,rfl⟩:∃cj,f=cj+1:=⟨f-1,by omega⟩;have a7:=Z (by have:=b1.out (fun k=>av k\/(Value.slice aM kids.length aN).ownBlock=some k) base rb d T W wr (ak.Ql aW.out) ak.r a6;exact this);have bA:=Z ak.r.EG;have ck:=Z ak.r.Ak;obtain⟨cl,a8⟩:=U (K d T W);have a9:=Z a8;rw[a8]at a7;unfold Am Cg at a7;clear ap aG bx a6 ak a8;go_wp2_with fail;refine a7.out.mono ?_;cases cl with
  |bad a e=>
   rintro e wc ⟨rfl,aO⟩;have aP:=Z (show R=.bad a _ by rw[<-bz.out,Cd,a9.out];rfl);refine AS rfl ?_;rw[aP.out];exact(⟨rfl,aH.out.fr.trans aO⟩:_/\_)
  |ok x aa N=>
   rintro e wc ⟨v,rfl,rfl,bB,aO⟩;have bC:=Z (aH.out.step bB aO);clear bB aO;have ab:=Z (b2.out _ _ _ _ _ ck.out a9.out);have aQ:=ab.out.len;have aR:=ab.out.EG;have aS:=bA.out;have a':=al.out;obtain⟨F,aA⟩:=U (BT aa C9);have cm:=Z aA;obtain⟨h,aT⟩:=U (A5 aa C9);have cn:=Z aT;have bD:=Z (by have:=au.out _ wc aa N C9 bC.out.r;rw[aA,aT]at this;exact this);unfold C9 at bD;have aB:=Z (show h.length+(if F=true then 1 else 0)=aa.length by
    rw[<-aT];unfold A5;rw[aA];cases F with
    |true=>have:=BD ab.out.Ak aA;simpa using this.2
    |false=>rfl)
   have aP:=Z (show R=((if(F||BT h Be||BT h GI)=true then(if BZ (AG (if F=true then h else h.tail))=true then Cd (K d) f (kids++[(if F=true then(N.length:Int)else x)]) (M||F) (AG (if F=true then h else h.tail)) (if F=true then N++[{ kind:=7,kids:=[x] }]else N)else .ok (kids++[(if F=true then(N.length:Int)else x)],M||F) (AG (if F=true then h else h.tail)) (if F=true then N++[{ kind:=7,kids:=[x] }]else N))else .ok (kids++[(if F=true then(N.length:Int)else x)],M||F) h (if F=true then N++[{ kind:=7,kids:=[x] }]else N)):PR (List Int×Bool)).bind JZ by
    rw[<-bz.out,Cd,a9.out,PR.Bm];simp only[cm.out,cn.out])
   clear aA aT aQ aR aS a';go_wp2_with fail;refine bD.out.mono ?_;rintro e aU ⟨v,rfl,rfl,bE,bF⟩;have ba:=Z (bC.out.step bE bF);clear bE bF;go_upto_if 13 with(fail);go_cut [4,5] (fun aw co ax=> ∃(y:Int) (z:List V),aw=.bool (M||F)/\co=.int .i64 y/\Fh av base w ax rb h z d (.slice aM kids.length aN) kids/\z.length+10*h.length+3<=100000/\R=((if(F||BT h Be||BT h GI)=true then(if BZ (AG (if F=true then h else h.tail))=true then Cd (K d) f (kids++[y]) (M||F) (AG (if F=true then h else h.tail)) z else .ok (kids++[y],M||F) (AG (if F=true then h else h.tail)) z)else .ok (kids++[y],M||F) h z):PR (List Int×Bool)).bind JZ);case first=>
    have aQ:=ab.out.len;have aR:=ab.out.EG;have aS:=bA.out;cases F with
    |true=>
     have aC:=aB.out;rw[Ai rfl]at aC;have bG:=Z (ba.out.grown (AF (AB aU none) (.cells #[.int .i64 x] 3)));have cp:=Z (by have:=aX.out (fun k=>av k\/(Value.slice aM kids.length aN).ownBlock=some k) (aU.alloc (.cells #[.int .i64 x] 3)) h N { kind:=7,kids:=[x] } (.slice none 0 0) (.slice none 0 0) (.slice none 0 0) (.slice none 0 0) (.slice (some ⟨aU.heap.size,0,none⟩) 1 1) bG.out.r (JG (l:=[x]) (by simp) (Y.new aU 3 _) (ba.out.Ql aW.out) 7 (by simp)) (by omega);unfold AU sv at this;simp only[]at this;exact this);have bb:=Z (show(N++[({ kind:=7,kids:=[x] } :V)]).length+10*h.length+3<=100000 by rw[BG,Cj];omega);clear aQ aR aS aC;go_wp2_with fail;refine cp.out.mono ?_;rintro e cF ⟨v,rfl,rfl,bH,bI⟩;have ae:=Z (bG.out.step bH bI);clear bH bI;go_wp2_with fail;go_meet;case rel=>exact⟨_,_,by simp,rfl,ae.out,bb.out,by simpa using aP.out⟩
    |false=>
     have aC:=aB.out;rw[AP (by decide)]at aC;have bb:=Z (show N.length+10*h.length+3<=100000 by omega);clear aQ aR aS aC;go_wp2_with fail;go_meet;case rel=>exact⟨x,N,by simp,rfl,ba.out,bb.out,by simpa using aP.out⟩
   case rest=>
    obtain⟨y,z,rfl,rfl,bJ,bK,bL⟩:=hcut;have bM:=Z bJ;have aq:=Z bK;have aD:=Z bL;obtain⟨G,ah⟩:=U ((M||F));rw[ah]at aD;simp only[ah];clear bJ bK bL ah;have a':=al.out;go_upto_region 9 with(at_builtin;refine AV 3 (.int .i64 0) 1 8 underlying30 Ba rfl (.slice aM kids.length aN) kids.length (kids.map (Value.int .i64)) 0 _ 1 [.int .i64 y] rfl rfl (Own.alloc bM.out.own _) (by omega) (KR _ _ y rfl) (by unfold maxLen;omega) (by omega) ?_;intro cG cH bc bN bO _;(have ae:=Z (bM.out.app _ bc bN bO));obtain⟨aI,aJ,rfl,_,_⟩:=Own.form bc;clear bc bN bO a');go_cut [34] (fun cq ax=> ∃(stop:Bool) (O:List AY),cq=.bool stop/\R=(if stop=true then .ok (kids++[y],G) O z else if BZ (AG O)=true then Cd (K d) f (kids++[y]) G (AG O) z else .ok (kids++[y],G) (AG O) z:PR (List Int×Bool)).bind JZ/\Fh av base w ax rb O z d (.slice aI (kids.length+1) aJ) (kids++[y])/\O.length<=h.length/\(stop=false->O.length+1<=aa.length));case first=>
     cases F with
     |true=>
      have X:=Z (show h.length+1<=aa.length by have:=aB.out;rw[Ai rfl]at this;omega);have am:=Z (show R=(if BZ (AG h)=true then Cd (K d) f (kids++[y]) G (AG h) z else .ok (kids++[y],G) (AG h) z:PR (List Int×Bool)).bind JZ by simpa using aD.out);go_wp2_with fail;go_meet;case rel=>exact⟨false,h,rfl,am.out,ae.out,BN _,fun _=>X.out⟩
     |false=>
      have bP:=Z (show h.length=aa.length by have:=aB.out;rw[AP (by decide)]at this;omega);obtain⟨s1,ac⟩:=U (BT h Be);have ad:=Z (by have:=au.out _ _ h z Be ae.out.r;rw[ac]at this;exact this);have bQ:=Z ae.out.r.Ak;cases s1 with
      |true=>
       have ad:=Z (by have:=ad.out;rw[show A5 h Be=h.tail from Ai ac]at this;exact this);unfold Be at ad;have am:=Z (show R=(if BZ (AG h.tail)=true then Cd (K d) f (kids++[y]) G (AG h.tail) z else .ok (kids++[y],G) (AG h.tail) z:PR (List Int×Bool)).bind JZ by have:=aD.out;rw[ac]at this;simpa using this);have X:=Z (show h.tail.length+1<=aa.length by have:=(BD bQ.out ac).2;have:=bP.out;omega);clear ac;go_wp2_with fail;refine ad.out.mono ?_;rintro e aE ⟨v,rfl,rfl,I,J⟩;have an:=Z (ae.out.step I J);clear I J;go_wp2_with fail;go_meet;case rel=>exact⟨false,h.tail,rfl,am.out,an.out,by simp,fun _=>X.out⟩
      |false=>
       have ad:=Z (by have:=ad.out;rw[show A5 h Be=h from by unfold A5;rw[ac];rfl]at this;exact this);unfold Be at ad;obtain⟨s2,af⟩:=U (BT h GI);have ag:=Z (fun aE (L:CQ (fun k=>av k\/(Value.slice aI (kids.length+1) aJ).ownBlock=some k) base aE rb h z d)=>by have:=au.out _ aE h z GI L;rw[af]at this;exact this);cases s2 with
       |true=>
        have ag:=Z (by have:=ag.out;rw[show A5 h GI=h.tail from Ai af]at this;exact this);unfold GI at ag;have am:=Z (show R=(if BZ (AG h.tail)=true then Cd (K d) f (kids++[y]) G (AG h.tail) z else .ok (kids++[y],G) (AG h.tail) z:PR (List Int×Bool)).bind JZ by have:=aD.out;rw[ac,af]at this;simpa using this);have X:=Z (show h.tail.length+1<=aa.length by have:=(BD bQ.out af).2;have:=bP.out;omega);clear ac af;go_wp2_with fail;refine ad.out.mono ?_;rintro e aE ⟨v,rfl,rfl,I,J⟩;have an:=Z (ae.out.step I J);clear I J;have bd:=Z (ag.out _ an.out.r);go_wp2_with fail;refine bd.out.mono ?_;rintro e cr ⟨v,rfl,rfl,I,J⟩;have be:=Z (an.out.step I J);clear I J;go_wp2_with fail;go_meet;case rel=>exact⟨false,h.tail,rfl,am.out,be.out,by simp,fun _=>X.out⟩
       |false=>
        have ag:=Z (by have:=ag.out;rw[show A5 h GI=h from by unfold A5;rw[af];rfl]at this;exact this);unfold GI at ag;have ay:=Z (show R=(.ok (kids++[y],G) h z:PR (List Int×Bool)).bind JZ by have:=aD.out;rw[ac,af]at this;simpa using this);clear ac af;go_wp2_with fail;refine ad.out.mono ?_;rintro e aE ⟨v,rfl,rfl,I,J⟩;have an:=Z (ae.out.step I J);clear I J;have bd:=Z (ag.out _ an.out.r);go_wp2_with fail;refine bd.out.mono ?_;rintro e cr ⟨v,rfl,rfl,I,J⟩;have be:=Z (an.out.step I J);clear I J;go_wp2_with fail;go_meet;case rel=>exact⟨true,h,rfl,ay.out,be.out,BN _,fun e=>by cases e⟩
    case rest=>
     obtain⟨stop,O,rfl,bR,bS,bT,bU⟩:=hcut;have bV:=Z bR;have aV:=Z bS;have bf:=Z bT;have cs:=Z bU;clear bR bS bT bU;have cI:=Z (show h.length<=aa.length by have:=aB.out;split at this<;>omega);cases stop with
     |true=>
      go_wp2_with fail;go_meet;case rel=>exact⟨_,G,O,z,bV.out,rfl,aV.out,by simp,by have:=aq.out;have:=bf.out;omega⟩
     |false=>
      have am:=Z (show R=(if BZ (AG O)=true then Cd (K d) f (kids++[y]) G (AG O) z else .ok (kids++[y],G) (AG O) z:PR (List Int×Bool)).bind JZ from bV.out);have X:=Z (cs.out rfl);go_wp2_with fail;have bW:=Z (aF.out _ _ _ _ aV.out.r);have bg:=Ae aV.out.r.Ak;obtain⟨ar,bh⟩:=U (AG (O));rw[bh]at bW bg;have ao:=Z bg.2;have ct:=Z (by have:=am.out;rw[bh]at this;exact this);clear bh bg;refine bW.out.mono ?_;rintro e wf ⟨v,rfl,rfl,I,J⟩;have bX:=Z (aV.out.step I J);clear I J;obtain⟨cu,aj⟩:=U (BZ ar);have cv:=Z (by have:=b3.out _ wf ar z bX.out.r;rw[aj]at this;exact this);have bY:=Z (by have:=ct.out;rw[aj]at this;exact this);clear aj;go_wp2_with fail;refine cv.out.mono ?_;rintro e cJ ⟨rfl,bZ⟩;have b0:=Z (bX.out.grown bZ);clear bZ;cases cu with
      |true=>
       go_wp2_with fail;go_roundg (gk-1);case rel=>exact⟨f,_,G,ar,z,by have:=bY.out;exact this.symm,rfl,by have:=ao.out;have:=X.out;have:=ab.out.len;have:=al.out;omega,by have:=ao.out;have:=X.out;have:=ab.out.len;have:=al.out;omega,by have:=ao.out;have:=X.out;have:=ab.out.len;have:=al.out;omega,by have:=ao.out;have:=X.out;have:=ab.out.len;have:=al.out;simp only[BG,Cj];omega,b0.out⟩
       case measure=>have:=ao.out;have:=X.out;have:=ab.out.len;have:=al.out;omega
      |false=>
       have ay:=Z (show R=JZ (kids++[y],G) ar z from bY.out);have aq:=Z (show z.length+10*ar.length+2<=100000 by have:=ao.out;have:=bf.out;have:=aq.out;omega);go_wp2_with fail;go_meet;case rel=>exact⟨_,G,ar,z,ay.out,rfl,b0.out,by simp,by have:=aq.out;have:=ao.out;have:=bf.out;omega⟩
end Go.Proofs.YtdhfhphbkfgamaaGreat
