/- A part. -/
import Derived.Test.YtdhfhphbkfgamaaGreatPr
set_option maxRecDepth 100000
set_option linter.all false
set_option maxHeartbeats 0
namespace Go.Proofs.YtdhfhphbkfgamaaGreat
open Go.RowKit Lx Proofs.Tryz
def QN(f:Nat)(Al:DC)(a b:Int):List AY->List V->PR Int:=fun ts ns=>
 if BT ts Fl=true then(FZ Al f ts.tail ns).bind fun c ts ns=>Ao { kind:=10,kids:=[a,b,c] } ts ns
  else if BT ts Fa=true then(Al ts.tail ns).bind fun c ts ns=>(AX IH ts ns).bind fun _ ts ns=>Ao { kind:=10,kids:=[a,b,c] } ts ns
  else(AX IH ts ns).bind fun _ ts ns=>Ao { kind:=10,kids:=[a,b] } ts ns
theorem TS(f:Nat)(Al:DC)(ts:List AY)(ns:List V):FZ Al (f+1) ts ns=(Al ts ns).bind fun a ts ns=>(AX Fb ts ns).bind fun _ ts ns=>(Al ts ns).bind fun b ts ns=>QN f Al a b ts ns:=rfl
theorem No{s:List UInt8}{ts:List AY}(h:BT ts s=true):A5 ts s=ts.tail:=Ai h
theorem PO{s:List UInt8}{ts:List AY}(h:BT ts s=false):A5 ts s=ts:=AP (by rw[h];decide)
theorem WJ(n:Nat)(Al:Eg)(aQ:Fc 2 Al)(bs:RG 30 Al n):∀(f:Nat) (av:Nat->Prop) (base:Nat->Prop) (rb d:Nat) (ts:List AY) (ns:List V) (w:World),(∀k,av k->k<w.heap.size)->CQ av base w rb ts ns d->ts.length<=n->ts.length<f->
  Calls prog 129 #[.pointer (some ⟨rb,0,none⟩)] w (Am Cg av base w rb d (FZ (Al d) f ts ns)):=by
 intro f;induction f with
 |zero=>intro av base rb d ts ns w aI K al ar;omega
 |succ f ih=>
  intro av base rb d ts ns w aI K al ar;have am:=Z aI;have aR:=Z (aQ d);have bS:=Z (fun av w ts ns a b c e=>ih av base rb d ts ns w a b c e);have bT:=Z (KY (aQ d) f);have aS:=Z (fun av w ts ns a b c=>bs av base rb d ts ns w a b c);have aT:=Z (fun av base w s aU ns (K:CQ av base w rb aU ns d)=>Kx s K);have aJ:=Z (fun av base w s aU ns (K:CQ av base w rb aU ns d)=>Mx s K);have aK:=Z (fun av base w ts ns n a b r p k K al ar=>Hg av base rb d ts ns n a b r p k w K al ar);unfold Am I9 sv at aT;unfold sv at aJ;unfold Am Cg Ao at aK;have aV:=Z (aS.out av w ts ns aI K al);have bU:=Z K.EG;have bV:=Z K.Ak;have aL:=Z (BC al ar);rw[TS];obtain⟨R,aW⟩:=U (((Al d ts ns).bind fun a ts ns=>(AX Fb ts ns).bind fun _ ts ns=>(Al d ts ns).bind fun b ts ns=>QN f (Al d) a b ts ns));have bW:=Z aW.symm;rw[aW];obtain⟨bt,aX⟩:=U (Al d ts ns);rw[aX]at aV;have bu:=Z aX;have aY:=Z (show R=bt.bind fun a ts ns=>(AX Fb ts ns).bind fun _ ts ns=>(Al d ts ns).bind fun b ts ns=>QN f (Al d) a b ts ns by rw[bW.out,bu.out]);unfold Am Cg at aV;clear aW aX aI K al ar ih bs aQ;go_enter func129,ntmps129;go_wp2_with fail;refine aV.out.mono ?_;cases bt with
  |bad a e=>
   rintro e wc ⟨rfl,I⟩;refine AS rfl ?_;rw[aY.out];exact(⟨rfl,I⟩:_/\_)
  |ok a aM aZ=>
   have a0:=Z (aR.out _ _ _ _ _ bV.out bu.out);rintro e bX ⟨v,rfl,rfl,bv,bw⟩;have aN:=Z (Fh.first bv bw a);clear bv bw;have aO:=Z (aJ.out _ base _ Fb _ _ aN.out.r);obtain⟨bY,a1⟩:=U (BT aM Fb);have a2:=Z a1;have a3:=aN.out.r.Ak;unfold AX at aO;rw[a1]at aO;unfold Fb Am Cr at aO;clear a1;go_wp2_with fail;refine aO.out.mono ?_;cases bY with
   |false=>
    obtain⟨bx,bz,W⟩:=a3.ne;have X:=Z (show R=A3 aM by rw[aY.out];(try rw[PR.Bm]);rw[Ci a2.out];rw[W];rfl);rw[W]at X⊢;rintro e wc ⟨rfl,I⟩;refine AS rfl ?_;rw[X.out];exact(⟨rfl,aN.out.fr.trans I⟩:_/\_)
   |true=>
    obtain⟨bA,bB⟩:=BD a3 a2.out;have bC:=Z bA;have a4:=Z bB;have bD:=Z (show R=(Al d aM.tail aZ).bind fun b ts ns=>QN f (Al d) a b ts ns by rw[aY.out];(try rw[PR.Bm]);rw[CK a2.out];rfl);rintro e b6 ⟨v,rfl,rfl,z,F⟩;have au:=Z (aN.out.step z F);clear z F bA bB a3;obtain⟨a5,bE⟩:=U aM.tail;rw[bE]at bC a4 bD au;clear bE;have bZ:=Z (show a5.length<=n by have:=a0.out.len;have:=a4.out;have:=aL.out;omega);have a6:=Z (aS.out _ _ a5 aZ (au.out.Ql am.out) au.out.r bZ.out);obtain⟨bF,a7⟩:=U (Al d a5 aZ);rw[a7]at a6;have bG:=Z a7;have bH:=Z (show R=bF.bind fun b ts ns=>QN f (Al d) a b ts ns by rw[bD.out,bG.out]);unfold Am Cg at a6;clear a7;go_wp2_with fail;refine a6.out.mono ?_;cases bF with
    |bad a e=>
     rintro e wc ⟨rfl,I⟩;refine AS rfl ?_;rw[bH.out];exact(⟨rfl,au.out.fr.trans I⟩:_/\_)
    |ok b h J=>
     have a8:=Z (aR.out _ _ _ _ _ bC.out bG.out);rintro e b7 ⟨v,rfl,rfl,z,F⟩;have K3:=Z (au.out.step z F);clear z F;have bI:=Z (show R=QN f (Al d) a b h J from bH.out);go_wp2_with (at_builtin;refine AV 3 (.int .i64 0) 1 8 underlying30 Ba rfl (.slice (some ⟨bX.heap.size,0,none⟩) 1 1) [a].length ([a].map (Value.int .i64)) 0 _ 1 [.int .i64 b] rfl rfl (Own.alloc K3.out.own _) (by simp) (KR _ _ b rfl) (by unfold maxLen;simp) (by simp) ?_;intro bJ bK L aa ab _;(have a9:=Z (K3.out.app _ L aa ab));obtain⟨a',ba,rfl,_,_⟩:=Own.form L;clear L aa ab);simp only[List.singleton_append,Cj]at a9⊢;have an:=Z (show J.length+10*h.length+5<=100000/\h.length+2<=ts.length by have:=a0.out.EG;have:=a0.out.len;have:=a4.out;have:=a8.out.EG;have:=a8.out.len;have:=bU.out;omega);have bL:=Z a8.out.Ak;have bb:=Z (aT.out _ base _ Fl _ _ a9.out.r);obtain⟨b0,bc⟩:=U (BT h Fl);rw[bc]at bb;have aw:=Z bc;unfold Fl at bb;clear bc;refine bb.out.mono ?_;rintro e b8 ⟨v,rfl,rfl,z,F⟩;have M:=Z (a9.out.step z F);clear z F;cases b0 with
     |true=>
      obtain⟨ag,ah⟩:=BD bL.out aw.out;rw[show A5 h [101,108,105,102]=h.tail from No aw.out]at M;have ao:=Z (show R=(FZ (Al d) f h.tail J).bind fun c ts ns=>Ao { kind:=10,kids:=[a,b,c] } ts ns from bI.out.trans (Ai aw.out));obtain⟨ax,ay⟩:=U h.tail;rw[ay]at ag ah M ao;have bd:=Z ag;have ap:=Z ah;clear ag ah ay;have be:=Z (bS.out _ _ ax J (M.out.Ql am.out) M.out.r (by have:=ap.out;have:=an.out;have:=aL.out;omega) (by have:=ap.out;have:=an.out;have:=aL.out;omega));obtain⟨bM,bf⟩:=U (FZ (Al d) f ax J);rw[bf]at be;have bN:=Z bf;have ac:=Z (show R=bM.bind fun c ts ns=>Ao { kind:=10,kids:=[a,b,c] } ts ns by rw[ao.out,bN.out]);unfold Am Cg at be;clear bf;go_wp2_with fail;refine be.out.mono ?_;cases bM with
      |bad a e=>
       rintro e wc ⟨rfl,I⟩;refine AS rfl ?_;rw[ac.out];exact(⟨rfl,M.out.fr.trans I⟩:_/\_)
      |ok c bg bh=>
       have b1:=Z (bT.out _ _ _ _ _ bd.out bN.out);rintro e b9 ⟨v,rfl,rfl,z,F⟩;have G:=Z (M.out.step z F);clear z F;have az:=Z (show R=Ao { kind:=10,kids:=[a,b,c] } bg bh from ac.out);unfold Ao at az;have bi:=Z (show bh.length+1+10*bg.length<=100000 by have:=b1.out.EG;have:=ap.out;have:=an.out;omega);go_wp2_with (at_builtin;refine AV 3 (.int .i64 0) 1 8 underlying30 Ba rfl (.slice a' 2 ba) [a,b].length ([a,b].map (Value.int .i64)) 0 _ 1 [.int .i64 c] rfl rfl (Own.alloc G.out.own _) (by simp) (KR _ _ c rfl) (by unfold maxLen;simp) (by simp) ?_;intro bJ bK L aa ab _;(have ad:=Z (G.out.app _ L aa ab));obtain⟨bj,bk,rfl,_,_⟩:=Own.form L;clear L aa ab);simp only[List.cons_append,List.nil_append,BR,CU]at ad⊢;have aA:=Z (by have:=aK.out av base _ bg bh { kind:=10,kids:=[a,b,c] } (.slice none 0 0) (.slice none 0 0) (.slice none 0 0) (.slice none 0 0) (.slice bj 3 bk) ad.out.plain (Nl ad.out.own ad.out.new am.out 10) bi.out;unfold AU sv at this;simp only[]at this;exact this);have aB:=Z ad.out.fr;go_wp2_with fail;refine aA.out.mono ?_;rintro e bO ⟨v,rfl,rfl,ae,af⟩;have aC:=Z ae;have aD:=Z (aB.out.trans af);clear ae af;go_wp2_with fail;rw[az.out];go_ret;exact⟨_,rfl,rfl,aC.out,aD.out⟩
     |false=>
      rw[show A5 h [101,108,105,102]=h from PO aw.out]at M;have ao:=Z (show R=if BT h Fa=true then(Al d h.tail J).bind fun c ts ns=>(AX IH ts ns).bind fun _ ts ns=>Ao { kind:=10,kids:=[a,b,c] } ts ns else(AX IH h J).bind fun _ ts ns=>Ao { kind:=10,kids:=[a,b] } ts ns from bI.out.trans (AP (by rw[aw.out];decide)));have bl:=Z (aT.out _ base _ Fa _ _ M.out.r);obtain⟨b2,bm⟩:=U (BT h Fa);rw[bm]at bl ao;have bn:=Z bm;unfold Fa at bl;clear bm;go_wp2_with fail;refine bl.out.mono ?_;rintro e b' ⟨v,rfl,rfl,z,F⟩;have G:=Z (M.out.step z F);clear z F;cases b2 with
      |true=>
       obtain⟨ag,ah⟩:=BD bL.out bn.out;rw[show A5 h [101,108,115,101]=h.tail from No bn.out]at G;have ac:=Z (show R=(Al d h.tail J).bind fun c ts ns=>(AX IH ts ns).bind fun _ ts ns=>Ao { kind:=10,kids:=[a,b,c] } ts ns from ao.out);obtain⟨ax,ay⟩:=U h.tail;rw[ay]at ag ah G ac;have bd:=Z ag;have ap:=Z ah;clear ag ah ay;have bo:=Z (aS.out _ _ ax J (G.out.Ql am.out) G.out.r (by have:=ap.out;have:=an.out;have:=aL.out;omega));obtain⟨bP,bp⟩:=U (Al d ax J);rw[bp]at bo;have bQ:=Z bp;have az:=Z (show R=bP.bind fun c ts ns=>(AX IH ts ns).bind fun _ ts ns=>Ao { kind:=10,kids:=[a,b,c] } ts ns by rw[ac.out,bQ.out]);unfold Am Cg at bo;clear bp;go_wp2_with fail;refine bo.out.mono ?_;cases bP with
       |bad a e=>
        rintro e wc ⟨rfl,I⟩;refine AS rfl ?_;rw[az.out];exact(⟨rfl,G.out.fr.trans I⟩:_/\_)
       |ok c aq aP=>
        have b3:=Z (aR.out _ _ _ _ _ bd.out bQ.out);rintro e ca ⟨v,rfl,rfl,z,F⟩;have ad:=Z (G.out.step z F);clear z F;have bR:=Z (show R=(AX IH aq aP).bind fun _ ts ns=>Ao { kind:=10,kids:=[a,b,c] } ts ns from az.out);have bi:=Z (show aP.length+1+10*aq.length<=100000 by have:=b3.out.EG;have:=ap.out;have:=an.out;omega);go_wp2_with (at_builtin;refine AV 3 (.int .i64 0) 1 8 underlying30 Ba rfl (.slice a' 2 ba) [a,b].length ([a,b].map (Value.int .i64)) 0 _ 1 [.int .i64 c] rfl rfl (Own.alloc ad.out.own _) (by simp) (KR _ _ c rfl) (by unfold maxLen;simp) (by simp) ?_;intro bJ bK L aa ab _;(have aE:=Z (ad.out.app _ L aa ab));obtain⟨bj,bk,rfl,_,_⟩:=Own.form L;clear L aa ab);simp only[List.cons_append,List.nil_append,BR,CU]at aE⊢;have N:=Z (aJ.out _ base _ IH _ _ aE.out.r);obtain⟨bq,ai⟩:=U (BT aq IH);have aj:=Z ai;have ak:=aE.out.r.Ak;unfold AX at N;rw[ai]at N;unfold IH Am Cr at N;clear ai;go_wp2_with fail;refine N.out.mono ?_;cases bq with
        |false=>
         obtain⟨bx,bz,W⟩:=ak.ne;have X:=Z (show R=A3 aq by rw[bR.out];(try rw[PR.Bm]);rw[Ci aj.out];rw[W];rfl);rw[W]at X⊢;rintro e wc ⟨rfl,I⟩;refine AS rfl ?_;rw[X.out];exact(⟨rfl,aE.out.fr.trans I⟩:_/\_)
        |true=>
         obtain⟨aF,aG⟩:=BD ak aj.out;have b4:=Z aF;have br:=Z aG;have aH:=Z (show R=Ao { kind:=10,kids:=[a,b,c] } aq.tail aP by rw[bR.out];(try rw[PR.Bm]);rw[CK aj.out];rfl);rintro e b5 ⟨v,rfl,rfl,z,F⟩;have O:=Z (aE.out.step z F);clear z F aF aG ak;unfold Ao at aH;have aA:=Z (by have:=aK.out av base _ aq.tail aP { kind:=10,kids:=[a,b,c] } (.slice none 0 0) (.slice none 0 0) (.slice none 0 0) (.slice none 0 0) (.slice bj 3 bk) O.out.plain (Nl O.out.own O.out.new am.out 10) (by have:=bi.out;have:=br.out;omega);unfold AU sv at this;simp only[]at this;exact this);have aB:=Z O.out.fr;go_wp2_with fail;refine aA.out.mono ?_;rintro e bO ⟨v,rfl,rfl,ae,af⟩;have aC:=Z ae;have aD:=Z (aB.out.trans af);clear ae af;go_wp2_with fail;rw[aH.out];go_ret;exact⟨_,rfl,rfl,aC.out,aD.out⟩
      |false=>
       rw[show A5 h [101,108,115,101]=h from PO bn.out]at G;have ac:=Z (show R=(AX IH h J).bind fun _ ts ns=>Ao { kind:=10,kids:=[a,b] } ts ns from ao.out);have N:=Z (aJ.out _ base _ IH _ _ G.out.r);obtain⟨bq,ai⟩:=U (BT h IH);have aj:=Z ai;have ak:=G.out.r.Ak;unfold AX at N;rw[ai]at N;unfold IH Am Cr at N;clear ai;go_wp2_with fail;refine N.out.mono ?_;cases bq with
       |false=>
        obtain⟨bx,bz,W⟩:=ak.ne;have X:=Z (show R=A3 h by rw[ac.out];(try rw[PR.Bm]);rw[Ci aj.out];rw[W];rfl);rw[W]at X⊢;rintro e wc ⟨rfl,I⟩;refine AS rfl ?_;rw[X.out];exact(⟨rfl,G.out.fr.trans I⟩:_/\_)
       |true=>
        obtain⟨aF,aG⟩:=BD ak aj.out;have b4:=Z aF;have br:=Z aG;have aH:=Z (show R=Ao { kind:=10,kids:=[a,b] } h.tail J by rw[ac.out];(try rw[PR.Bm]);rw[CK aj.out];rfl);rintro e b5 ⟨v,rfl,rfl,z,F⟩;have O:=Z (G.out.step z F);clear z F aF aG ak;unfold Ao at aH;have aA:=Z (by have:=aK.out av base _ h.tail J { kind:=10,kids:=[a,b] } (.slice none 0 0) (.slice none 0 0) (.slice none 0 0) (.slice none 0 0) (.slice a' 2 ba) O.out.plain (Nl O.out.own O.out.new am.out 10) (by have:=an.out;have:=br.out;omega);unfold AU sv at this;simp only[]at this;exact this);have aB:=Z O.out.fr;go_wp2_with fail;refine aA.out.mono ?_;rintro e bO ⟨v,rfl,rfl,ae,af⟩;have aC:=Z ae;have aD:=Z (aB.out.trans af);clear ae af;go_wp2_with fail;rw[aH.out];go_ret;exact⟨_,rfl,rfl,aC.out,aD.out⟩
section
section
variable {av:Nat->Prop}{base:Nat->Prop}{rb d:Nat}{w W W' wA:World}{v vA:Value}{T T':List AY}{ns ns':List V}{ss:List (List UInt8)}
theorem Vh(s:List UInt8)(h:CQ av base W rb T ns d):Calls prog 60 #[.pointer (some ⟨rb,0,none⟩),sv s] W fun e w'=>e=.returned (.bool (Dx T s))/\W.grownBy w' none:=by
 obtain⟨z,F,h⟩:=h;exact IW av base rb d z F T ns s W h
theorem Wj(s:List UInt8)(h:CQ av base W rb T ns d):Calls prog 82 #[.pointer (some ⟨rb,0,none⟩),sv s] W fun e w'=>e=.returned (.bool (GD T s))/\W.grownBy w' none:=by
 obtain⟨z,F,h⟩:=h;exact JW av base rb d z F T ns s W h
theorem Xn(h:CQ av base W rb T ns d):Calls prog 132 #[.pointer (some ⟨rb,0,none⟩)] W (Am QA av base W rb d (Ea T ns)):=by
 obtain⟨z,F,h⟩:=h;exact(RW av base rb d F T ns W ⟨z,h⟩).mono fun e w' G=>Br.g h G
structure Hz(av:Nat->Prop)(base:Nat->Prop)(w W:World)(rb:Nat)(T:List AY)(ns:List V)(d:Nat)(v:Value)(ss:List (List UInt8)):Prop where
 r:CQ (fun k=>av k\/v.ownBlock=some k) base W rb T ns d
 own:Dd W v ss
 new:∀b,v.ownBlock=some b->w.heap.size<=b
 fr:Fr base w W
theorem Sx(h:CQ (fun k=>av k\/v.ownBlock=some k) base W rb T ns d)(hk:Dd W v ss)(o:Obj)(F:Az (fun b=>v.ownBlock=some b) (W.alloc o) wA)(G:∀b,vA.ownBlock=some b->v.ownBlock=some b\/(W.alloc o).heap.size<=b):CQ (fun k=>av k\/vA.ownBlock=some k) base wA rb T ns d:=by
 obtain⟨I,J,h⟩:=h;have L:=(h.grown (AF (AB W none) o)).more (S:=fun k=>(W.alloc o).heap.size<=k) (fun _ h=>h);have z:∀k,v.ownBlock=some k->Bn (W.alloc o) k 9:=fun k e=>Own.AO (Own.alloc hk o) e
 have M:=L.Bo F (fun k hk=> .inl (.inr hk)) (fun k e=>⟨fun x=>Aj ((z k e).uniq x) (by decide),fun x=>Aj ((z k e).uniq x) (by decide),fun x=>Aj ((z k e).uniq x) (by decide)⟩);refine⟨I,J,M.mono fun k hk=>?_⟩;rcases hk with hk|hk
 ·exact .inl (.inl hk)
 ·rcases G k hk with e|e
  ·exact .inl (.inr e)
  ·exact .inr e
theorem Hz.step(h:Hz av base w W rb T ns d v ss)(F:CQ (fun k=>av k\/v.ownBlock=some k) base W' rb T' ns' d)(z:Fr base W W'):Hz av base w W' rb T' ns' d v ss:=⟨F,Dd.fr z h.own,h.new,h.fr.trans z⟩
theorem Hz.grown(h:Hz av base w W rb T ns d v ss)(z:W.grownBy W' none):Hz av base w W' rb T ns d v ss:=h.step (h.r.grown z) (Fr.AL z)
theorem Hz.Ql(h:Hz av base w W rb T ns d v ss)(z:∀k,av k->k<w.heap.size):∀k,(av k\/v.ownBlock=some k)->k<W.heap.size:=fun k hk=>by
 rcases hk with hk|hk
 ·exact DZ (z k hk) h.fr.size
 ·exact Own.lt h.own hk
theorem Hz.app(h:Hz av base w W rb T ns d v ss)(o:Obj){y:List UInt8}(G:Own wA 9 1 vA (ss.length+1) (ss.map sv++[sv y]) 0)(z:Az (fun b=>v.ownBlock=some b) (W.alloc o) wA)(F:∀b,vA.ownBlock=some b->v.ownBlock=some b\/(W.alloc o).heap.size<=b):Hz av base w wA rb T ns d vA (ss++[y]):=by
 refine⟨Sx h.r h.own o z F,?_,fun b I=>?_,Oh h.fr o z h.new⟩
 ·unfold Dd;rw[BG,Cj,FN];exact G
 ·rcases F b I with e|e
  ·exact h.new b e
  ·rw[BW]at e;have:=h.fr.size;omega
theorem Hz.first(z:CQ av base W rb T ns d)(h:Fr base w W)(x:List UInt8):Hz av base w (W.alloc (.cells #[.string ⟨x.toArray⟩] 9)) rb T ns d (.slice (some ⟨W.heap.size,0,none⟩) 1 1) [x]:=by
 refine⟨Jm z _ _ _,?_,fun b F=>?_,h.alloc _⟩
 ·exact⟨rfl,.inr ⟨W.heap.size,0,1,_,(0,0),rfl,Y.new W 9 _,BN _,BN _,by unfold maxLen;omega,by show 0+1*1<=1;omega,fun j G=>(by(have J:j<1:=G);(have I:j=0:=by omega);subst I;rfl)⟩⟩
 ·simp[Value.ownBlock]at F;have:=h.size;omega
theorem Hz.plain(h:Hz av base w W rb T ns d v ss):CQ av base W rb T ns d:=h.r.mono fun _ hk=> .inl hk
end
def Ww(av:Nat->Prop)(vp vk:Value):Nat->Prop:=fun k=>av k\/vp.ownBlock=some k\/vk.ownBlock=some k
structure Bc(av:Nat->Prop)(base:Nat->Prop)(w W:World)(rb:Nat)(T:List AY)(ns:List V)(d A B:Nat)(s:List UInt8)(P:List (List (List UInt8)))(K:List Int)(vw vp vk:Value):Prop where
 r:CQ (Ww av vp vk) (Bx (Bx base A) B) W rb T ns d
 box:Y W B 32 #[.int .i64 14,.string ⟨#[]⟩,.bool false,.slice none 0 0,vw,.slice none 0 0,vp,vk]
 res:Y W A 32 #[.int .i64 0,.string ⟨#[]⟩,.bool false,.slice none 0 0,.slice none 0 0,.slice none 0 0,.slice none 0 0,.slice none 0 0]
 hA:w.heap.size<=A
 hB:w.heap.size<=B
 ne:A≠B
 words:Dd W vw [s]
 nw:∀k,vw.ownBlock=some k->w.heap.size<=k
 AT:NH av W vp P
 np:∀k,vp.ownBlock=some k->w.heap.size<=k
 kids:He W vk K
 nk:∀k,vk.ownBlock=some k->w.heap.size<=k
 fr:Fr base w W
section
variable {av:Nat->Prop}{base:Nat->Prop}{rb d A B:Nat}{w W W' X:World}{vw vp vk v v5:Value}{T T':List AY}{ns ns':List V}{s:List UInt8}{P:List (List (List UInt8))}{K:List Int}{ss:List (List UInt8)}
theorem Bc.step(h:Bc av base w W rb T ns d A B s P K vw vp vk)(F:CQ (Ww av vp vk) (Bx (Bx base A) B) W' rb T' ns' d)(z:Fr (Bx (Bx base A) B) W W'):Bc av base w W' rb T' ns' d A B s P K vw vp vk:=
 ⟨F,z.low h.box (fun e=>e.2 rfl),z.low h.res (fun e=>e.1.2 rfl),h.hA,h.hB,h.ne,Dd.fr z h.words,h.nw,NH.fr z h.AT,h.np,He.fr z h.kids,h.nk,h.fr.trans z.unbox.unbox⟩
theorem Bc.grown(h:Bc av base w W rb T ns d A B s P K vw vp vk)(z:W.grownBy W' none):Bc av base w W' rb T ns d A B s P K vw vp vk:=h.step (h.r.grown z) (Fr.AL z)
theorem Bc.Ql(h:Bc av base w W rb T ns d A B s P K vw vp vk)(z:∀k,av k->k<w.heap.size):∀k,Ww av vp vk k->k<W.heap.size:=fun k hk=>by
 rcases hk with hk|hk|hk
 ·exact DZ (z k hk) h.fr.size
 ·obtain⟨G,F,_⟩:=h.AT;exact Own.lt F hk
 ·exact Own.lt h.kids hk
theorem Ei:(prog.info? 27).map (fun i=>(i.zero,i.size,i.bytes))=some (some (.slice none 0 0),1,24):=by kernel_rfl
theorem Mw{x:World}{b:Nat}{u:Value}(h:Y x b 27 #[u])(z:u.oneCell'=true):Src prog 1 29 (.slice (some ⟨b,0,none⟩) 1 1) 1 [u] x:=
 Own.src (P:=prog) (tx:=29) (e':=27) (n:=1) (xs:=[u]) (k:=0) (e:=27) ⟨rfl,.inr ⟨b,0,1,_,(0,0),rfl,h,BN _,BN _,by unfold maxLen;omega,by show 0+1*1<=1;omega,fun j G=>(by(have F:j=0:=by omega);subst F;rfl)⟩⟩ (by kernel_rfl) (by intro y hy;simp at hy;subst hy;exact z)
theorem E5{x:World}{b:Nat}{y:Int}(z:Y x b 3 #[.int .i64 y]):Src prog 1 30 (.slice (some ⟨b,0,none⟩) 1 1) 1 [.int .i64 y] x:=
 Own.src (P:=prog) (tx:=30) (e':=3) (n:=1) (xs:=[.int .i64 y]) (k:=0) (e:=3) ⟨rfl,.inr ⟨b,0,1,_,(0,0),rfl,z,BN _,BN _,by unfold maxLen;omega,by show 0+1*1<=1;omega,fun j G=>(by(have F:j=0:=by omega);subst F;rfl)⟩⟩ (by kernel_rfl) (by intro u h;simp at h;subst h;rfl)
structure KS(e:TypeId)(W X:World)(v0 v:Value)(n:Nat)(xs:List Value):Prop where
 own:Own X e 1 v n xs 0
 new:∀k,v.ownBlock=some k->v0.ownBlock=some k\/W.heap.size<=k
variable {a b c:World}{p q:Value}{n m:Nat}{xs ys:List Value}{e:TypeId}
theorem KS.alloc(h:KS e W X v q n xs)(o:Obj):KS e W (X.alloc o) v q n xs:=⟨h.own.alloc o,h.new⟩
theorem KS.app(z:KS e W X v q n xs)(hs:W.heap.size<=X.heap.size){h:Value}{c:World}(F:Own c e 1 h m ys 0)(G:∀k,h.ownBlock=some k->q.ownBlock=some k\/X.heap.size<=k):KS e W c v h m ys:=
 ⟨F,fun k hk=>by
  rcases G k hk with e|e
  ·exact z.new k e
  ·exact .inr (E0 hs e)⟩
theorem KS.Bi{f:TypeId}{vA:Value}(h:KS e W X v q n xs)(g:KS f W X p vA m ys)(z:e≠f){c:World}(F:Az (fun k=>vA.ownBlock=some k) X c):KS e W c v q n xs:=
 ⟨h.own.Bo F fun b G e=>Aj ((Own.AO h.own G).uniq (Own.AO g.own e)) z,h.new⟩
structure Qa(W X:World)(B:Nat)(vw vp vk p q:Value)(n:Nat)(xs:List Value)(m:Nat)(ys:List Value):Prop where
 ch:Az (fun k=>vp.ownBlock=some k\/vk.ownBlock=some k) W X
 hp:KS 27 W X vp p n xs
 hk:KS 3 W X vk q m ys
 box:Y X B 32 #[.int .i64 14,.string ⟨#[]⟩,.bool false,.slice none 0 0,vw,.slice none 0 0,vp,vk]
theorem Qa.alloc(h:Qa W X B vw vp vk p q n xs m ys)(o:Obj):Qa W (X.alloc o) B vw vp vk p q n xs m ys:=⟨h.ch.alloc o,h.hp.alloc o,h.hk.alloc o,h.box.alloc o⟩
theorem Qa.Lr(h:Qa W X B vw vp vk vp q n xs m ys){c:World}{z:Value}{G:Nat}{I:List Value}(J:Own c 27 1 z G I 0)(F:Az (fun k=>vp.ownBlock=some k) X c)(L:∀k,z.ownBlock=some k->vp.ownBlock=some k\/X.heap.size<=k):Qa W c B vw vp vk z q G I m ys:=
 ⟨Az.trans h.ch F fun i _ e=> .inl e,h.hp.app h.ch.size J L,h.hk.Bi h.hp (by decide) F,Y.Bo h.box F (fun e=>Aj ((Own.AO h.hp.own e).uniq h.box.AO) (by decide))⟩
theorem Qa.IE(h:Qa W X B vw vp vk p vk n xs m ys){c:World}{z:Value}{G:Nat}{I:List Value}(J:Own c 3 1 z G I 0)(F:Az (fun k=>vk.ownBlock=some k) X c)(L:∀k,z.ownBlock=some k->vk.ownBlock=some k\/X.heap.size<=k):Qa W c B vw vp vk p z n xs G I:=
 ⟨Az.trans h.ch F fun i _ e=> .inr e,h.hp.Bi h.hk (by decide) F,h.hk.app h.ch.size J L,Y.Bo h.box F (fun e=>Aj ((Own.AO h.hk.own e).uniq h.box.AO) (by decide))⟩
theorem Qa.MM(G:Qa W X B vw vp vk vp q n xs m ys){c:World}{h:Nat}{z:Array Value}(F:Y X h 3 z)(I:Az (fun k=>vp.ownBlock=some k) X c):Y c h 3 z:=Y.Bo F I (fun e=>Aj ((Own.AO G.hp.own e).uniq F.AO) (by decide))
theorem Bc.fin(h:Bc av base w W rb T ns d A B s P K vw vp vk)(ai:∀k,av k->k<w.heap.size){F:List Value}(aa:Own W 27 1 vp P.length F 0)(aj:∀i (h:i<P.length),∃u,F[i]? =some u/\Dd W u P[i]/\Av av u){y:Int}(m:Qa W X B vw vp vk p q (P.length+1) (F++[v5]) (K.length+1) (K.map (Value.int .i64)++[.int .i64 y]))
  (ak:Dd W v5 ss) (al:∀k,v5.ownBlock=some k->w.heap.size<=k):Bc av base w ((X.setCell ⟨B,6,none⟩ p).setCell ⟨B,7,none⟩ q) rb T ns d A B s (P++[ss]) (K++[y]) vw p q:=by
 have ay:w.heap.size<=W.heap.size:=h.fr.size;have M:=m.box.AO;have G:∀k,vp.ownBlock=some k->Bn W k 27:=fun k e=>Own.AO aa e
 have I:∀k,vk.ownBlock=some k->Bn W k 3:=fun k e=>Own.AO h.kids e
 have N:∀ {u:Value} {l:List (List UInt8)},Dd W u l->Dd ((X.setCell ⟨B,6,none⟩ p).setCell ⟨B,7,none⟩ q) u l:=fun {u l} z=>by
  have L:Dd X u l:=Own.Bo z m.ch (fun g ab e=>by
   rcases e with e|e
   ·exact Aj ((Own.AO z ab).uniq (G g e)) (by decide)
   ·exact Aj ((Own.AO z ab).uniq (I g e)) (by decide))
  have J:Dd (X.setCell ⟨B,6,none⟩ p) u l:=Own.Bi L (p:=⟨B,6,none⟩) (fun e=>Aj ((Own.AO L e).uniq M) (by decide)) _;have O:Bn (X.setCell ⟨B,6,none⟩ p) B 32:=(Y.AW m.box 6 p).AO;exact Own.Bi J (p:=⟨B,7,none⟩) (fun e=>Aj ((Own.AO J e).uniq O) (by decide)) _
 have ac:∀ {e:TypeId} {u:Value} {n:Nat} {xs:List Value},e≠32->Own X e 1 u n xs 0->Own ((X.setCell ⟨B,6,none⟩ p).setCell ⟨B,7,none⟩ q) e 1 u n xs 0:=fun {e u n xs} ad z=>by
  have J:=Own.Bi z (p:=⟨B,6,none⟩) (fun e'=>ad ((Own.AO z e').uniq M)) p;have O:Bn (X.setCell ⟨B,6,none⟩ p) B 32:=(Y.AW m.box 6 p).AO;exact Own.Bi J (p:=⟨B,7,none⟩) (fun e'=>ad ((Own.AO J e').uniq O)) q
 have ae:∀k,p.ownBlock=some k->w.heap.size<=k:=fun k hk=>by
  rcases m.hp.new k hk with e|e
  ·exact h.np k e
  ·omega
 have am:∀k,q.ownBlock=some k->w.heap.size<=k:=fun k hk=>by
  rcases m.hk.new k hk with e|e
  ·exact h.nk k e
  ·omega
 have af:∀ {u:Value},(∀k,u.ownBlock=some k->w.heap.size<=k)->Av av u:=fun z b an e=>by have:=z b an;have:=ai b e;omega
 have ao:CQ (Ww av p q) (Bx (Bx base A) B) X rb T ns d:=by
  obtain⟨ap,aq,ar⟩:=h.r;have L:=(ar.more (S:=fun k=>W.heap.size<=k) (fun _ h=>h)).Bo m.ch (fun k e=>by
   rcases e with e|e
   ·exact .inl (.inr (.inl e))
   ·exact .inl (.inr (.inr e))) (fun k e=>by
   rcases e with e|e
   ·exact⟨fun x=>Aj ((G k e).uniq x) (by decide),fun x=>Aj ((G k e).uniq x) (by decide),fun x=>Aj ((G k e).uniq x) (by decide)⟩
   ·exact⟨fun x=>Aj ((I k e).uniq x) (by decide),fun x=>Aj ((I k e).uniq x) (by decide),fun x=>Aj ((I k e).uniq x) (by decide)⟩)
  refine⟨ap,aq,L.mono fun k hk=>?_⟩;rcases hk with hk|hk|hk
  ·exact .inl (.inl hk)
  ·rcases m.hp.new k hk with e|e
   ·exact .inl (.inr (.inl e))
   ·exact .inr e
  ·rcases m.hk.new k hk with e|e
   ·exact .inl (.inr (.inr e))
   ·exact .inr e
 have au:Fr base w X:=Az.trans h.fr m.ch fun i ag hs=>by
  rcases hs with e|e
  ·have:=h.np i e;omega
  ·have:=h.nk i e;omega
 have aw:Y X A 32 #[.int .i64 0,.string ⟨#[]⟩,.bool false,.slice none 0 0,.slice none 0 0,.slice none 0 0,.slice none 0 0,.slice none 0 0]:=Y.Bo h.res m.ch (fun e=>by
  rcases e with e|e
  ·exact Aj ((G _ e).uniq h.res.AO) (by decide)
  ·exact Aj ((I _ e).uniq h.res.AO) (by decide))
 refine⟨(ao.IQ (fun e=>e.2 rfl) M 6 p).IQ (fun e=>e.2 rfl) (Y.AW m.box 6 p).AO 7 q,Y.AW (Y.AW m.box 6 p) 7 q,Y.Bi (Y.Bi aw (p:=⟨B,6,none⟩) h.ne _) (p:=⟨B,7,none⟩) h.ne _,h.hA,h.hB,h.ne,N h.words,h.nw,⟨F++[v5],?_,af ae,fun i ag=>?_⟩,ae,?_,am,Fr.NM (Fr.NM au h.hB 6 p) h.hB 7 q⟩
 ·rw[BG,Cj];exact ac (by decide) m.hp.own
 ·rw[BG,Cj]at ag;have az:=aa.len;by_cases ah:i<P.length
  ·obtain⟨u,z,hs,ax⟩:=aj i ah;refine⟨u,?_,?_,ax⟩
   ·rw[Gx (by omega)];exact z
   ·rw[List.getElem_append_left ah];exact N hs
  ·obtain rfl:i=P.length:=by omega
   refine⟨v5,?_,?_,af al⟩
   ·rw[Ig (by omega),show P.length-F.length=0 by omega];rfl
   ·rw[List.getElem_append_right (BN _)];simpa using N ak
 ·unfold He;rw[BG,Cj,FN];exact ac (by decide) m.hk.own
end
end
end Go.Proofs.YtdhfhphbkfgamaaGreat
