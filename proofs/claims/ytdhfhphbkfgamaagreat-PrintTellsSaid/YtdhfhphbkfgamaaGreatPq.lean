/- PrintTells: a part of its proof. -/
import Derived.Test.YtdhfhphbkfgamaaGreatPr
set_option maxRecDepth 100000
set_option maxHeartbeats 64000000
namespace Go.Proofs.YtdhfhphbkfgamaaGreat
section
open Go.RowKit Lx
def QB (f:Nat) (Ak:C4) (a b:Int):List AX→List V→PR Int:=fun ts ns=>
 if BR ts FN=true then(E5 Ak f ts.tail ns).bind fun c ts ns=>An { kind:=10,kids:=[a,b,c] } ts ns
  else if BR ts FC=true then(Ak ts.tail ns).bind fun c ts ns=>(AW Gr ts ns).bind fun _ ts ns=>An { kind:=10,kids:=[a,b,c] } ts ns
  else(AW Gr ts ns).bind fun _ ts ns=>An { kind:=10,kids:=[a,b] } ts ns
theorem TV (f:Nat) (Ak:C4) (ts:List AX) (ns:List V):E5 Ak (f+1) ts ns=(Ak ts ns).bind fun a ts ns=>(AW E8 ts ns).bind fun _ ts ns=>(Ak ts ns).bind fun b ts ns=>QB f Ak a b ts ns:=rfl
theorem Mt {s:List UInt8} {ts:List AX} (h:BR ts s=true):A3 ts s=ts.tail:=Ah h
theorem Ov {s:List UInt8} {ts:List AX} (h:BR ts s=false):A3 ts s=ts:=U (by rw[h];decide)
theorem Z0Y {P:Prop} (h:P:=by
 have aE:=Z X.out.fr;go_wp2_with fail;refine aD.out.mono ?_;rintro e bR ⟨v,rfl,rfl,ag,ah⟩;have aF:=Z ag;have aG:=Z (aE.out.trans ah);clear ag ah;go_wp2_with fail;rw[aK.out];go_ret;exact⟨_,rfl,rfl,aF.out,aG.out⟩):P:=h
theorem VB (n:Nat) (Ak:EO) (aT:FF 2 Ak) (bw:Qa 30 Ak n): ∀(f:Nat) (av:Nat→Prop) (base:Nat→Prop) (rb d:Nat) (ts:List AX) (ns:List V) (w:World),(∀k,av k→k<w.heap.size)→CM av base w rb ts ns d→ts.length≤n→ts.length<f→
  Calls Tryz.prog 129 #[.pointer (some ⟨rb,0,none⟩)] w (Al CZ av base w rb d (E5 (Ak d) f ts ns)):=by
 intro f;induction f with
 |zero=>intro av base rb d ts ns w aL K an aw;omega
 |succ f ih=>
  intro av base rb d ts ns w aL K an aw;have ao:=Z aL;have aU:=Z (aT d);have bV:=Z (fun av w ts ns a b c e=>ih av base rb d ts ns w a b c e);have bW:=Z (Jz (aT d) f);have aV:=Z (fun av w ts ns a b c=>bw av base rb d ts ns w a b c);have aW:=Z (fun av base w s aX ns (K:CM av base w rb aX ns d)=>Kj s K);have aM:=Z (fun av base w s aX ns (K:CM av base w rb aX ns d)=>MH s K);have aN:=Z (fun av base w ts ns n a b r p k K an aw=>GZ av base rb d ts ns n a b r p k w K an aw);unfold Al IY sv at aW;unfold sv at aM;unfold Al CZ An at aN;have aY:=Z (aV.out av w ts ns aL K an);have bX:=Z K.Dy;have bY:=Z K.Aj;have aO:=Z (A8 an aw);rw[TV];obtain⟨R,aZ⟩: ∃R,((Ak d ts ns).bind fun a ts ns=>(AW E8 ts ns).bind fun _ ts ns=>(Ak d ts ns).bind fun b ts ns=>QB f (Ak d) a b ts ns)=R:=⟨_,rfl⟩;have bZ:=Z aZ.symm;rw[aZ];obtain⟨M,a0⟩: ∃M,Ak d ts ns=M:=⟨_,rfl⟩;rw[a0]at aY;have bx:=Z a0;have a1:=Z (show R=M.bind fun a ts ns=>(AW E8 ts ns).bind fun _ ts ns=>(Ak d ts ns).bind fun b ts ns=>QB f (Ak d) a b ts ns by rw[bZ.out,bx.out]);unfold Al CZ at aY;clear aZ a0 aL K an aw ih bw aT;go_enter Tryz.func129,Tryz.ntmps129;go_wp2_with fail;refine aY.out.mono ?_;cases M with
  |bad a e=>
   rintro e wc ⟨rfl,I⟩;refine AR rfl ?_;rw[a1.out];exact(⟨rfl,I⟩:_∧_)
  |ok a aP a2=>
   have a3:=Z (aU.out _ _ _ _ _ bY.out bx.out);rintro e b0 ⟨v,rfl,rfl,bz,bA⟩;have aQ:=Z (FJ.first bz bA a);clear bz bA;have aR:=Z (aM.out _ base _ E8 _ _ aQ.out.r);obtain⟨b1,a4⟩: ∃ax,BR aP E8=ax:=⟨_,rfl⟩;have a5:=Z a4;have a6:=aQ.out.r.Aj;unfold AW at aR;rw[a4]at aR;unfold E8 Al Ch at aR;clear a4;go_wp2_with fail;refine aR.out.mono ?_;cases b1 with
   |false=>
    obtain⟨bB,bC,aa⟩:=a6.ne;have ab:=Z (show R=Ay aP by rw[a1.out];(try rw[PR.Bj]);rw[Cc a5.out];rw[aa];rfl);rw[aa]at ab⊢;rintro e wc ⟨rfl,I⟩;refine AR rfl ?_;rw[ab.out];exact(⟨rfl,aQ.out.fr.trans I⟩:_∧_)
   |true=>
    obtain⟨bD,bE⟩:=A9 a6 a5.out;have bF:=Z bD;have a7:=Z bE;have bG:=Z (show R=(Ak d aP.tail a2).bind fun b ts ns=>QB f (Ak d) a b ts ns by rw[a1.out];(try rw[PR.Bj]);rw[CH a5.out];rfl);rintro e b7 ⟨v,rfl,rfl,z,F⟩;have ay:=Z (aQ.out.step z F);clear z F bD bE a6;obtain⟨az,bH⟩: ∃az,aP.tail=az:=⟨_,rfl⟩;rw[bH]at bF a7 bG ay;clear bH;have b2:=Z (show az.length≤n by have:=a3.out.len;have:=a7.out;have:=aO.out;omega);have a8:=Z (aV.out _ _ az a2 (ay.out.Ph ao.out) ay.out.r b2.out);obtain⟨bI,a9⟩: ∃M,Ak d az a2=M:=⟨_,rfl⟩;rw[a9]at a8;have bJ:=Z a9;have bK:=Z (show R=bI.bind fun b ts ns=>QB f (Ak d) a b ts ns by rw[bG.out,bJ.out]);unfold Al CZ at a8;clear a9;go_wp2_with fail;refine a8.out.mono ?_;cases bI with
    |bad a e=>
     rintro e wc ⟨rfl,I⟩;refine AR rfl ?_;rw[bK.out];exact(⟨rfl,ay.out.fr.trans I⟩:_∧_)
    |ok b h J=>
     have a':=Z (aU.out _ _ _ _ _ bF.out bJ.out);rintro e b8 ⟨v,rfl,rfl,z,F⟩;have K3:=Z (ay.out.step z F);clear z F;have bL:=Z (show R=QB f (Ak d) a b h J from bK.out);go_wp2_with (at_builtin;refine AU 3 (.int .i64 0) 1 8 Tryz.underlying30 BW rfl (.slice (some ⟨b0.heap.size,0,none⟩) 1 1) [a].length ([a].map (Value.int .i64)) 0 _ 1 [.int .i64 b] rfl rfl (Own.alloc K3.out.own _) (by simp) (Jp _ _ b rfl) (by unfold maxLen;simp) (by simp) ?_;intro bM bN L ac ad _;(have ba:=Z (K3.out.app _ L ac ad));obtain⟨bb,bc,rfl,_,_⟩:=Own.form L;clear L ac ad);simp only[List.singleton_append,Cd]at ba⊢;have ap:=Z (show J.length+10*h.length+5≤100000∧h.length+2≤ts.length by have:=a3.out.Dy;have:=a3.out.len;have:=a7.out;have:=a'.out.Dy;have:=a'.out.len;have:=bX.out;omega);have bO:=Z a'.out.Aj;have bd:=Z (aW.out _ base _ FN _ _ ba.out.r);obtain⟨be,bf⟩: ∃be,BR h FN=be:=⟨_,rfl⟩;rw[bf]at bd;have aA:=Z bf;unfold FN at bd;clear bf;refine bd.out.mono ?_;rintro e b9 ⟨v,rfl,rfl,z,F⟩;have N:=Z (ba.out.step z F);clear z F;cases be with
     |true=>
      obtain⟨ai,aj⟩:=A9 bO.out aA.out;rw[show A3 h [101,108,105,102]=h.tail from Mt aA.out]at N;have aq:=Z (show R=(E5 (Ak d) f h.tail J).bind fun c ts ns=>An { kind:=10,kids:=[a,b,c] } ts ns from bL.out.trans (Ah aA.out));obtain⟨O,aB⟩: ∃O,h.tail=O:=⟨_,rfl⟩;rw[aB]at ai aj N aq;have bg:=Z ai;have ar:=Z aj;clear ai aj aB;have bh:=Z (bV.out _ _ O J (N.out.Ph ao.out) N.out.r (by have:=ar.out;have:=ap.out;have:=aO.out;omega) (by have:=ar.out;have:=ap.out;have:=aO.out;omega));obtain⟨bP,bi⟩: ∃M,E5 (Ak d) f O J=M:=⟨_,rfl⟩;rw[bi]at bh;have bQ:=Z bi;have ae:=Z (show R=bP.bind fun c ts ns=>An { kind:=10,kids:=[a,b,c] } ts ns by rw[aq.out,bQ.out]);unfold Al CZ at bh;clear bi;go_wp2_with fail;refine bh.out.mono ?_;cases bP with
      |bad a e=>
       rintro e wc ⟨rfl,I⟩;refine AR rfl ?_;rw[ae.out];exact(⟨rfl,N.out.fr.trans I⟩:_∧_)
      |ok c bj bk=>
       have b3:=Z (bW.out _ _ _ _ _ bg.out bQ.out);rintro e b' ⟨v,rfl,rfl,z,F⟩;have G:=Z (N.out.step z F);clear z F;have aC:=Z (show R=An { kind:=10,kids:=[a,b,c] } bj bk from ae.out);unfold An at aC;have bl:=Z (show bk.length+1+10*bj.length≤100000 by have:=b3.out.Dy;have:=ar.out;have:=ap.out;omega);go_wp2_with (at_builtin;refine AU 3 (.int .i64 0) 1 8 Tryz.underlying30 BW rfl (.slice bb 2 bc) [a,b].length ([a,b].map (Value.int .i64)) 0 _ 1 [.int .i64 c] rfl rfl (Own.alloc G.out.own _) (by simp) (Jp _ _ c rfl) (by unfold maxLen;simp) (by simp) ?_;intro bM bN L ac ad _;(have af:=Z (G.out.app _ L ac ad));obtain⟨bm,bn,rfl,_,_⟩:=Own.form L;clear L ac ad);simp only[List.cons_append,List.nil_append,BP,List.length_nil]at af⊢;have aD:=Z (by have:=aN.out av base _ bj bk { kind:=10,kids:=[a,b,c] } (.slice none 0 0) (.slice none 0 0) (.slice none 0 0) (.slice none 0 0) (.slice bm 3 bn) af.out.plain (Mk af.out.own af.out.new ao.out 10) bl.out;unfold AT sv at this;simp only[]at this;exact this);have aE:=Z af.out.fr;go_wp2_with fail;refine aD.out.mono ?_;rintro e bR ⟨v,rfl,rfl,ag,ah⟩;have aF:=Z ag;have aG:=Z (aE.out.trans ah);clear ag ah;go_wp2_with fail;rw[aC.out];go_ret;exact⟨_,rfl,rfl,aF.out,aG.out⟩
     |false=>
      rw[show A3 h [101,108,105,102]=h from Ov aA.out]at N;have aq:=Z (show R=if BR h FC=true then(Ak d h.tail J).bind fun c ts ns=>(AW Gr ts ns).bind fun _ ts ns=>An { kind:=10,kids:=[a,b,c] } ts ns else(AW Gr h J).bind fun _ ts ns=>An { kind:=10,kids:=[a,b] } ts ns from bL.out.trans (U (by rw[aA.out];decide)));have bo:=Z (aW.out _ base _ FC _ _ N.out.r);obtain⟨bp,bq⟩: ∃bp,BR h FC=bp:=⟨_,rfl⟩;rw[bq]at bo aq;have br:=Z bq;unfold FC at bo;clear bq;go_wp2_with fail;refine bo.out.mono ?_;rintro e ca ⟨v,rfl,rfl,z,F⟩;have G:=Z (N.out.step z F);clear z F;cases bp with
      |true=>
       obtain⟨ai,aj⟩:=A9 bO.out br.out;rw[show A3 h [101,108,115,101]=h.tail from Mt br.out]at G;have ae:=Z (show R=(Ak d h.tail J).bind fun c ts ns=>(AW Gr ts ns).bind fun _ ts ns=>An { kind:=10,kids:=[a,b,c] } ts ns from aq.out);obtain⟨O,aB⟩: ∃O,h.tail=O:=⟨_,rfl⟩;rw[aB]at ai aj G ae;have bg:=Z ai;have ar:=Z aj;clear ai aj aB;have bs:=Z (aV.out _ _ O J (G.out.Ph ao.out) G.out.r (by have:=ar.out;have:=ap.out;have:=aO.out;omega));obtain⟨bS,bt⟩: ∃M,Ak d O J=M:=⟨_,rfl⟩;rw[bt]at bs;have bT:=Z bt;have aC:=Z (show R=bS.bind fun c ts ns=>(AW Gr ts ns).bind fun _ ts ns=>An { kind:=10,kids:=[a,b,c] } ts ns by rw[ae.out,bT.out]);unfold Al CZ at bs;clear bt;go_wp2_with fail;refine bs.out.mono ?_;cases bS with
       |bad a e=>
        rintro e wc ⟨rfl,I⟩;refine AR rfl ?_;rw[aC.out];exact(⟨rfl,G.out.fr.trans I⟩:_∧_)
       |ok c au aS=>
        have b4:=Z (aU.out _ _ _ _ _ bg.out bT.out);rintro e cb ⟨v,rfl,rfl,z,F⟩;have af:=Z (G.out.step z F);clear z F;have bU:=Z (show R=(AW Gr au aS).bind fun _ ts ns=>An { kind:=10,kids:=[a,b,c] } ts ns from aC.out);have bl:=Z (show aS.length+1+10*au.length≤100000 by have:=b4.out.Dy;have:=ar.out;have:=ap.out;omega);go_wp2_with (at_builtin;refine AU 3 (.int .i64 0) 1 8 Tryz.underlying30 BW rfl (.slice bb 2 bc) [a,b].length ([a,b].map (Value.int .i64)) 0 _ 1 [.int .i64 c] rfl rfl (Own.alloc af.out.own _) (by simp) (Jp _ _ c rfl) (by unfold maxLen;simp) (by simp) ?_;intro bM bN L ac ad _;(have aH:=Z (af.out.app _ L ac ad));obtain⟨bm,bn,rfl,_,_⟩:=Own.form L;clear L ac ad);simp only[List.cons_append,List.nil_append,BP,List.length_nil]at aH⊢;have W:=Z (aM.out _ base _ Gr _ _ aH.out.r);obtain⟨bu,ak⟩: ∃ax,BR au Gr=ax:=⟨_,rfl⟩;have al:=Z ak;have am:=aH.out.r.Aj;unfold AW at W;rw[ak]at W;unfold Gr Al Ch at W;clear ak;go_wp2_with fail;refine W.out.mono ?_;cases bu with
        |false=>
         obtain⟨bB,bC,aa⟩:=am.ne;have ab:=Z (show R=Ay au by rw[bU.out];(try rw[PR.Bj]);rw[Cc al.out];rw[aa];rfl);rw[aa]at ab⊢;rintro e wc ⟨rfl,I⟩;refine AR rfl ?_;rw[ab.out];exact(⟨rfl,aH.out.fr.trans I⟩:_∧_)
        |true=>
         obtain⟨aI,aJ⟩:=A9 am al.out;have b5:=Z aI;have bv:=Z aJ;have aK:=Z (show R=An { kind:=10,kids:=[a,b,c] } au.tail aS by rw[bU.out];(try rw[PR.Bj]);rw[CH al.out];rfl);rintro e b6 ⟨v,rfl,rfl,z,F⟩;have X:=Z (aH.out.step z F);clear z F aI aJ am;unfold An at aK;have aD:=Z (by have:=aN.out av base _ au.tail aS { kind:=10,kids:=[a,b,c] } (.slice none 0 0) (.slice none 0 0) (.slice none 0 0) (.slice none 0 0) (.slice bm 3 bn) X.out.plain (Mk X.out.own X.out.new ao.out 10) (by have:=bl.out;have:=bv.out;omega);unfold AT sv at this;simp only[]at this;exact this);exact Z0Y
      |false=>
       rw[show A3 h [101,108,115,101]=h from Ov br.out]at G;have ae:=Z (show R=(AW Gr h J).bind fun _ ts ns=>An { kind:=10,kids:=[a,b] } ts ns from aq.out);have W:=Z (aM.out _ base _ Gr _ _ G.out.r);obtain⟨bu,ak⟩: ∃ax,BR h Gr=ax:=⟨_,rfl⟩;have al:=Z ak;have am:=G.out.r.Aj;unfold AW at W;rw[ak]at W;unfold Gr Al Ch at W;clear ak;go_wp2_with fail;refine W.out.mono ?_;cases bu with
       |false=>
        obtain⟨bB,bC,aa⟩:=am.ne;have ab:=Z (show R=Ay h by rw[ae.out];(try rw[PR.Bj]);rw[Cc al.out];rw[aa];rfl);rw[aa]at ab⊢;rintro e wc ⟨rfl,I⟩;refine AR rfl ?_;rw[ab.out];exact(⟨rfl,G.out.fr.trans I⟩:_∧_)
       |true=>
        obtain⟨aI,aJ⟩:=A9 am al.out;have b5:=Z aI;have bv:=Z aJ;have aK:=Z (show R=An { kind:=10,kids:=[a,b] } h.tail J by rw[ae.out];(try rw[PR.Bj]);rw[CH al.out];rfl);rintro e b6 ⟨v,rfl,rfl,z,F⟩;have X:=Z (G.out.step z F);clear z F aI aJ am;unfold An at aK;have aD:=Z (by have:=aN.out av base _ h.tail J { kind:=10,kids:=[a,b] } (.slice none 0 0) (.slice none 0 0) (.slice none 0 0) (.slice none 0 0) (.slice bb 2 bc) X.out.plain (Mk X.out.own X.out.new ao.out 10) (by have:=ap.out;have:=bv.out;omega);unfold AT sv at this;simp only[]at this;exact this);exact Z0Y
end
section
open Go.RowKit Lx
section
variable {av:Nat→Prop} {base:Nat→Prop} {rb d:Nat} {w W W' wA:World} {v vA:Value} {T T':List AX} {ns ns':List V} {ss:List (List UInt8)}
theorem VJ (s:List UInt8) (h:CM av base W rb T ns d):Calls Tryz.prog 60 #[.pointer (some ⟨rb,0,none⟩),sv s] W fun e w'=>e=.returned (.bool (Dn T s))∧W.grownBy w' none:=by
 obtain⟨z,F,h⟩:=h;exact Hz av base rb d z F T ns s W h
theorem VK (s:List UInt8) (h:CM av base W rb T ns d):Calls Tryz.prog 82 #[.pointer (some ⟨rb,0,none⟩),sv s] W fun e w'=>e=.returned (.bool (Fl T s))∧W.grownBy w' none:=by
 obtain⟨z,F,h⟩:=h;exact JE av base rb d z F T ns s W h
theorem WN (h:CM av base W rb T ns d):Calls Tryz.prog 132 #[.pointer (some ⟨rb,0,none⟩)] W (Al Pr av base W rb d (EI T ns)):=by
 obtain⟨z,F,h⟩:=h;exact(Q7 av base rb d F T ns W ⟨z,h⟩).mono fun e w' G=>Bo.g h G
structure GY (av:Nat→Prop) (base:Nat→Prop) (w W:World) (rb:Nat) (T:List AX) (ns:List V) (d:Nat) (v:Value) (ss:List (List UInt8)):Prop where
 r:CM (fun k=>av k∨v.ownBlock=some k) base W rb T ns d
 own:DV W v ss
 new: ∀b,v.ownBlock=some b→w.heap.size≤b
 fr:Fr base w W
theorem Rl (h:CM (fun k=>av k∨v.ownBlock=some k) base W rb T ns d) (hk:DV W v ss) (o:Obj) (F:Az (fun b=>v.ownBlock=some b) (W.alloc o) wA) (G: ∀b,vA.ownBlock=some b→v.ownBlock=some b∨(W.alloc o).heap.size≤b):CM (fun k=>av k∨vA.ownBlock=some k) base wA rb T ns d:=by
 obtain⟨I,J,h⟩:=h;have L:=(h.grown (AF (AB W none) o)).more (S:=fun k=>(W.alloc o).heap.size≤k) (fun _ h=>h);have z: ∀k,v.ownBlock=some k→Bk (W.alloc o) k 9:=fun k e=>Own.AN (Own.alloc hk o) e
 have M:=L.Bl F (fun k hk=> .inl (.inr hk)) (fun k e=>⟨fun x=>Ai ((z k e).uniq x) (by decide),fun x=>Ai ((z k e).uniq x) (by decide),fun x=>Ai ((z k e).uniq x) (by decide)⟩);refine⟨I,J,M.mono fun k hk=>?_⟩;rcases hk with hk|hk
 ·exact .inl (.inl hk)
 ·rcases G k hk with e|e
  ·exact .inl (.inr e)
  ·exact .inr e
theorem GY.step (h:GY av base w W rb T ns d v ss) (F:CM (fun k=>av k∨v.ownBlock=some k) base W' rb T' ns' d) (z:Fr base W W'):GY av base w W' rb T' ns' d v ss:=⟨F,DV.fr z h.own,h.new,h.fr.trans z⟩
theorem GY.grown (h:GY av base w W rb T ns d v ss) (z:W.grownBy W' none):GY av base w W' rb T ns d v ss:=h.step (h.r.grown z) (Fr.AL z)
theorem GY.Ph (h:GY av base w W rb T ns d v ss) (z: ∀k,av k→k<w.heap.size): ∀k,(av k∨v.ownBlock=some k)→k<W.heap.size:=fun k hk=>by
 rcases hk with hk|hk
 ·exact DP (z k hk) h.fr.size
 ·exact Own.lt h.own hk
theorem GY.app (h:GY av base w W rb T ns d v ss) (o:Obj) {y:List UInt8} (G:Own wA 9 1 vA (ss.length+1) (ss.map sv++[sv y]) 0) (z:Az (fun b=>v.ownBlock=some b) (W.alloc o) wA) (F: ∀b,vA.ownBlock=some b→v.ownBlock=some b∨(W.alloc o).heap.size≤b):GY av base w wA rb T ns d vA (ss++[y]):=by
 refine⟨Rl h.r h.own o z F,?_,fun b I=>?_,Oc h.fr o z h.new⟩
 ·unfold DV;rw[BE,Cd,List.map_append];exact G
 ·rcases F b I with e|e
  ·exact h.new b e
  ·rw[World.size_alloc]at e;have:=h.fr.size;omega
theorem GY.first (z:CM av base W rb T ns d) (h:Fr base w W) (x:List UInt8):GY av base w (W.alloc (.cells #[.string ⟨x.toArray⟩] 9)) rb T ns d (.slice (some ⟨W.heap.size,0,none⟩) 1 1) [x]:=by
 refine⟨I8 z _ _ _,?_,fun b F=>?_,h.alloc _⟩
 ·exact⟨rfl,.inr ⟨W.heap.size,0,1,_,(0,0),rfl,Y.new W 9 _,BL _,BL _,by unfold maxLen;omega,by show 0+1*1≤1;omega,fun j G=>(by(have J:j<1:=G);(have I:j=0:=by omega);subst I;rfl)⟩⟩
 ·simp[Value.ownBlock]at F;have:=h.size;omega
theorem GY.plain (h:GY av base w W rb T ns d v ss):CM av base W rb T ns d:=h.r.mono fun _ hk=> .inl hk
end
def WH (av:Nat→Prop) (vp vk:Value):Nat→Prop:=fun k=>av k∨vp.ownBlock=some k∨vk.ownBlock=some k
structure BY (av:Nat→Prop) (base:Nat→Prop) (w W:World) (rb:Nat) (T:List AX) (ns:List V) (d A B:Nat) (s:List UInt8) (P:List (List (List UInt8))) (K:List Int) (vw vp vk:Value):Prop where
 r:CM (WH av vp vk) (Bx (Bx base A) B) W rb T ns d
 box:Y W B 32 #[.int .i64 14,.string ⟨#[]⟩,.bool false,.slice none 0 0,vw,.slice none 0 0,vp,vk]
 res:Y W A 32 #[.int .i64 0,.string ⟨#[]⟩,.bool false,.slice none 0 0,.slice none 0 0,.slice none 0 0,.slice none 0 0,.slice none 0 0]
 hA:w.heap.size≤A
 hB:w.heap.size≤B
 ne:A≠B
 words:DV W vw [s]
 nw: ∀k,vw.ownBlock=some k→w.heap.size≤k
 AS:NP av W vp P
 np: ∀k,vp.ownBlock=some k→w.heap.size≤k
 kids:Ge W vk K
 nk: ∀k,vk.ownBlock=some k→w.heap.size≤k
 fr:Fr base w W
section
variable {av:Nat→Prop} {base:Nat→Prop} {rb d A B:Nat} {w W W' X:World} {vw vp vk v v5:Value} {T T':List AX} {ns ns':List V} {s:List UInt8} {P:List (List (List UInt8))} {K:List Int} {ss:List (List UInt8)}
theorem BY.step (h:BY av base w W rb T ns d A B s P K vw vp vk) (F:CM (WH av vp vk) (Bx (Bx base A) B) W' rb T' ns' d) (z:Fr (Bx (Bx base A) B) W W'):BY av base w W' rb T' ns' d A B s P K vw vp vk:=
 ⟨F,z.low h.box (fun e=>e.2 rfl),z.low h.res (fun e=>e.1.2 rfl),h.hA,h.hB,h.ne,DV.fr z h.words,h.nw,NP.fr z h.AS,h.np,Ge.fr z h.kids,h.nk,h.fr.trans z.unbox.unbox⟩
theorem BY.grown (h:BY av base w W rb T ns d A B s P K vw vp vk) (z:W.grownBy W' none):BY av base w W' rb T ns d A B s P K vw vp vk:=h.step (h.r.grown z) (Fr.AL z)
theorem BY.Ph (h:BY av base w W rb T ns d A B s P K vw vp vk) (z: ∀k,av k→k<w.heap.size): ∀k,WH av vp vk k→k<W.heap.size:=fun k hk=>by
 rcases hk with hk|hk|hk
 ·exact DP (z k hk) h.fr.size
 ·obtain⟨G,F,_⟩:=h.AS;exact Own.lt F hk
 ·exact Own.lt h.kids hk
theorem Eb:(Tryz.prog.info? 27).map (fun i=>(i.zero,i.size,i.bytes))=some (some (.slice none 0 0),1,24):=by kernel_rfl
theorem MX {x:World} {b:Nat} {u:Value} (h:Y x b 27 #[u]) (z:u.oneCell'=true):Src Tryz.prog 1 29 (.slice (some ⟨b,0,none⟩) 1 1) 1 [u] x:=
 Own.src (P:=Tryz.prog) (tx:=29) (e':=27) (n:=1) (xs:=[u]) (k:=0) (e:=27) ⟨rfl,.inr ⟨b,0,1,_,(0,0),rfl,h,BL _,BL _,by unfold maxLen;omega,by show 0+1*1≤1;omega,fun j G=>(by(have F:j=0:=by omega);subst F;rfl)⟩⟩ (by kernel_rfl) (by intro y hy;simp at hy;subst hy;exact z)
theorem Ei {x:World} {b:Nat} {y:Int} (z:Y x b 3 #[.int .i64 y]):Src Tryz.prog 1 30 (.slice (some ⟨b,0,none⟩) 1 1) 1 [.int .i64 y] x:=
 Own.src (P:=Tryz.prog) (tx:=30) (e':=3) (n:=1) (xs:=[.int .i64 y]) (k:=0) (e:=3) ⟨rfl,.inr ⟨b,0,1,_,(0,0),rfl,z,BL _,BL _,by unfold maxLen;omega,by show 0+1*1≤1;omega,fun j G=>(by(have F:j=0:=by omega);subst F;rfl)⟩⟩ (by kernel_rfl) (by intro u h;simp at h;subst h;rfl)
structure Jo (e:TypeId) (W X:World) (v0 v:Value) (n:Nat) (xs:List Value):Prop where
 own:Own X e 1 v n xs 0
 new: ∀k,v.ownBlock=some k→v0.ownBlock=some k∨W.heap.size≤k
variable {a b c:World} {p q:Value} {n m:Nat} {xs ys:List Value} {e:TypeId}
theorem Jo.alloc (h:Jo e W X v q n xs) (o:Obj):Jo e W (X.alloc o) v q n xs:=⟨h.own.alloc o,h.new⟩
theorem Jo.app (z:Jo e W X v q n xs) (hs:W.heap.size≤X.heap.size) {h:Value} {c:World} (F:Own c e 1 h m ys 0) (G: ∀k,h.ownBlock=some k→q.ownBlock=some k∨X.heap.size≤k):Jo e W c v h m ys:=
 ⟨F,fun k hk=>by
  rcases G k hk with e|e
  ·exact z.new k e
  ·exact .inr (Ef hs e)⟩
theorem Jo.Be {f:TypeId} {vA:Value} (h:Jo e W X v q n xs) (g:Jo f W X p vA m ys) (z:e≠f) {c:World} (F:Az (fun k=>vA.ownBlock=some k) X c):Jo e W c v q n xs:=
 ⟨h.own.Bl F fun b G e=>Ai ((Own.AN h.own G).uniq (Own.AN g.own e)) z,h.new⟩
structure QR (W X:World) (B:Nat) (vw vp vk p q:Value) (n:Nat) (xs:List Value) (m:Nat) (ys:List Value):Prop where
 ch:Az (fun k=>vp.ownBlock=some k∨vk.ownBlock=some k) W X
 hp:Jo 27 W X vp p n xs
 hk:Jo 3 W X vk q m ys
 box:Y X B 32 #[.int .i64 14,.string ⟨#[]⟩,.bool false,.slice none 0 0,vw,.slice none 0 0,vp,vk]
theorem QR.alloc (h:QR W X B vw vp vk p q n xs m ys) (o:Obj):QR W (X.alloc o) B vw vp vk p q n xs m ys:=⟨h.ch.alloc o,h.hp.alloc o,h.hk.alloc o,h.box.alloc o⟩
theorem QR.LI (h:QR W X B vw vp vk vp q n xs m ys) {c:World} {z:Value} {G:Nat} {I:List Value} (J:Own c 27 1 z G I 0) (F:Az (fun k=>vp.ownBlock=some k) X c) (L: ∀k,z.ownBlock=some k→vp.ownBlock=some k∨X.heap.size≤k):QR W c B vw vp vk z q G I m ys:=
 ⟨Az.trans h.ch F fun i _ e=> .inl e,h.hp.app h.ch.size J L,h.hk.Be h.hp (by decide) F,Y.Bl h.box F (fun e=>Ai ((Own.AN h.hp.own e).uniq h.box.AN) (by decide))⟩
theorem QR.Gn (h:QR W X B vw vp vk p vk n xs m ys) {c:World} {z:Value} {G:Nat} {I:List Value} (J:Own c 3 1 z G I 0) (F:Az (fun k=>vk.ownBlock=some k) X c) (L: ∀k,z.ownBlock=some k→vk.ownBlock=some k∨X.heap.size≤k):QR W c B vw vp vk p z n xs G I:=
 ⟨Az.trans h.ch F fun i _ e=> .inr e,h.hp.Be h.hk (by decide) F,h.hk.app h.ch.size J L,Y.Bl h.box F (fun e=>Ai ((Own.AN h.hk.own e).uniq h.box.AN) (by decide))⟩
theorem QR.LP (G:QR W X B vw vp vk vp q n xs m ys) {c:World} {h:Nat} {z:Array Value} (F:Y X h 3 z) (I:Az (fun k=>vp.ownBlock=some k) X c):Y c h 3 z:=Y.Bl F I (fun e=>Ai ((Own.AN G.hp.own e).uniq F.AN) (by decide))
theorem BY.fin (h:BY av base w W rb T ns d A B s P K vw vp vk) (ai: ∀k,av k→k<w.heap.size) {F:List Value} (aa:Own W 27 1 vp P.length F 0) (aj: ∀i (h:i<P.length),∃u,F[i]? =some u∧DV W u P[i]∧Av av u) {y:Int} (m:QR W X B vw vp vk p q (P.length+1) (F++[v5]) (K.length+1) (K.map (Value.int .i64)++[.int .i64 y]))
  (ak:DV W v5 ss) (al: ∀k,v5.ownBlock=some k→w.heap.size≤k):BY av base w ((X.setCell ⟨B,6,none⟩ p).setCell ⟨B,7,none⟩ q) rb T ns d A B s (P++[ss]) (K++[y]) vw p q:=by
 have ay:w.heap.size≤W.heap.size:=h.fr.size;have M:=m.box.AN;have G: ∀k,vp.ownBlock=some k→Bk W k 27:=fun k e=>Own.AN aa e
 have I: ∀k,vk.ownBlock=some k→Bk W k 3:=fun k e=>Own.AN h.kids e
 have N: ∀ {u:Value} {l:List (List UInt8)},DV W u l→DV ((X.setCell ⟨B,6,none⟩ p).setCell ⟨B,7,none⟩ q) u l:=fun {u l} z=>by
  have L:DV X u l:=Own.Bl z m.ch (fun g ab e=>by
   rcases e with e|e
   ·exact Ai ((Own.AN z ab).uniq (G g e)) (by decide)
   ·exact Ai ((Own.AN z ab).uniq (I g e)) (by decide))
  have J:DV (X.setCell ⟨B,6,none⟩ p) u l:=Own.Be L (p:=⟨B,6,none⟩) (fun e=>Ai ((Own.AN L e).uniq M) (by decide)) _;have O:Bk (X.setCell ⟨B,6,none⟩ p) B 32:=(Y.AV m.box 6 p).AN;exact Own.Be J (p:=⟨B,7,none⟩) (fun e=>Ai ((Own.AN J e).uniq O) (by decide)) _
 have ac: ∀ {e:TypeId} {u:Value} {n:Nat} {xs:List Value},e≠32→Own X e 1 u n xs 0→Own ((X.setCell ⟨B,6,none⟩ p).setCell ⟨B,7,none⟩ q) e 1 u n xs 0:=fun {e u n xs} ad z=>by
  have J:=Own.Be z (p:=⟨B,6,none⟩) (fun e'=>ad ((Own.AN z e').uniq M)) p;have O:Bk (X.setCell ⟨B,6,none⟩ p) B 32:=(Y.AV m.box 6 p).AN;exact Own.Be J (p:=⟨B,7,none⟩) (fun e'=>ad ((Own.AN J e').uniq O)) q
 have ae: ∀k,p.ownBlock=some k→w.heap.size≤k:=fun k hk=>by
  rcases m.hp.new k hk with e|e
  ·exact h.np k e
  ·omega
 have am: ∀k,q.ownBlock=some k→w.heap.size≤k:=fun k hk=>by
  rcases m.hk.new k hk with e|e
  ·exact h.nk k e
  ·omega
 have af: ∀ {u:Value},(∀k,u.ownBlock=some k→w.heap.size≤k)→Av av u:=fun z b an e=>by have:=z b an;have:=ai b e;omega
 have ao:CM (WH av p q) (Bx (Bx base A) B) X rb T ns d:=by
  obtain⟨ap,aq,ar⟩:=h.r;have L:=(ar.more (S:=fun k=>W.heap.size≤k) (fun _ h=>h)).Bl m.ch (fun k e=>by
   rcases e with e|e
   ·exact .inl (.inr (.inl e))
   ·exact .inl (.inr (.inr e))) (fun k e=>by
   rcases e with e|e
   ·exact⟨fun x=>Ai ((G k e).uniq x) (by decide),fun x=>Ai ((G k e).uniq x) (by decide),fun x=>Ai ((G k e).uniq x) (by decide)⟩
   ·exact⟨fun x=>Ai ((I k e).uniq x) (by decide),fun x=>Ai ((I k e).uniq x) (by decide),fun x=>Ai ((I k e).uniq x) (by decide)⟩)
  refine⟨ap,aq,L.mono fun k hk=>?_⟩;rcases hk with hk|hk|hk
  ·exact .inl (.inl hk)
  ·rcases m.hp.new k hk with e|e
   ·exact .inl (.inr (.inl e))
   ·exact .inr e
  ·rcases m.hk.new k hk with e|e
   ·exact .inl (.inr (.inr e))
   ·exact .inr e
 have au:Fr base w X:=Az.trans h.fr m.ch fun i ag hs=>by
  rcases hs with e|e
  ·have:=h.np i e;omega
  ·have:=h.nk i e;omega
 have aw:Y X A 32 #[.int .i64 0,.string ⟨#[]⟩,.bool false,.slice none 0 0,.slice none 0 0,.slice none 0 0,.slice none 0 0,.slice none 0 0]:=Y.Bl h.res m.ch (fun e=>by
  rcases e with e|e
  ·exact Ai ((G _ e).uniq h.res.AN) (by decide)
  ·exact Ai ((I _ e).uniq h.res.AN) (by decide))
 refine⟨(ao.ID (fun e=>e.2 rfl) M 6 p).ID (fun e=>e.2 rfl) (Y.AV m.box 6 p).AN 7 q,Y.AV (Y.AV m.box 6 p) 7 q,Y.Be (Y.Be aw (p:=⟨B,6,none⟩) h.ne _) (p:=⟨B,7,none⟩) h.ne _,h.hA,h.hB,h.ne,N h.words,h.nw,⟨F++[v5],?_,af ae,fun i ag=>?_⟩,ae,?_,am,Fr.NU (Fr.NU au h.hB 6 p) h.hB 7 q⟩
 ·rw[BE,Cd];exact ac (by decide) m.hp.own
 ·rw[BE,Cd]at ag;have az:=aa.len;by_cases ah:i<P.length
  ·obtain⟨u,z,hs,ax⟩:=aj i ah;refine⟨u,?_,?_,ax⟩
   ·rw[List.getElem?_append_left (by omega)];exact z
   ·rw[List.getElem_append_left ah];exact N hs
  ·obtain rfl:i=P.length:=by omega
   refine⟨v5,?_,?_,af al⟩
   ·rw[List.getElem?_append_right (by omega),show P.length-F.length=0 by omega];rfl
   ·rw[List.getElem_append_right (BL _)];simpa using N ak
 ·unfold Ge;rw[BE,Cd,List.map_append];exact ac (by decide) m.hk.own
end
end
end Go.Proofs.YtdhfhphbkfgamaaGreat
