/- PrintTells: a part of its proof. -/
import Derived.Test.YtdhfhphbkfgamaaGreatPi
set_option maxRecDepth 100000
set_option maxHeartbeats 64000000
namespace Go.Proofs.YtdhfhphbkfgamaaGreat
section
open Go.RowKit Lx
section
variable {av:Nat→Prop} {base:Nat→Prop} {rb d:Nat} {w w':World} {ts:List AX} {ns:List V}
theorem Kj (s:List UInt8) (h:CM av base w rb ts ns d):Calls Tryz.prog 63 #[.pointer (some ⟨rb,0,none⟩),sv s] w (Al IY av base w rb d (.ok (BR ts s) (A3 ts s) ns)):=by
 obtain⟨z,F,h⟩:=h;exact(Kh av base rb d F ts ns s w ⟨z,h⟩).mono fun e w' G=>Bo.g h G
theorem MH (s:List UInt8) (h:CM av base w rb ts ns d):Calls Tryz.prog 123 #[.pointer (some ⟨rb,0,none⟩),sv s] w (Al Ch av base w rb d (AW s ts ns)):=by
 obtain⟨z,F,h⟩:=h;exact(M6 av base rb d F ts ns s w ⟨z,h⟩).mono fun e w' G=>Bo.g h G
theorem GV (h:CM av base w rb ts ns d):Calls Tryz.prog 29 #[.pointer (some ⟨rb,0,none⟩)] w (Al Ch av base w rb d (.ok () (AG ts) ns)):=by
 obtain⟨z,F,h⟩:=h;exact(Ke av base rb d F ts ns w ⟨z,h⟩).mono fun e w' G=>Bo.g h G
end
def Qa (fn:FuncId) (spec:EO) (n:Nat):Prop:= ∀(av:Nat→Prop) (base:Nat→Prop) (rb d:Nat) (ts:List AX) (ns:List V) (w:World),(∀k,av k→k<w.heap.size)→CM av base w rb ts ns d→ts.length≤n→
 Calls Tryz.prog fn #[.pointer (some ⟨rb,0,none⟩)] w (Al CZ av base w rb d (spec d ts ns))
theorem Ij {av:Nat→Prop} {w:World} {b:Nat} {l:List Int} (I:l.length≤100000) (h:Y w b 3 (l.map (Value.int .i64)).toArray) (z: ∀k,av k→k<b) (kind:Int) (J:0<l.length):
  Bi av w (.slice none 0 0) (.slice none 0 0) (.slice none 0 0) (.slice none 0 0) (.slice (some ⟨b,0,none⟩) l.length l.length) { kind:=kind,kids:=l } :=by
 refine⟨Own.nil _ _ _ _,Own.nil _ _ _ _,Own.nil _ _ _ _,⟨[],Own.nil _ _ _ _,fun b h=>(by cases h),fun i F=>Ai F (by simp)⟩,⟨by simp,.inr ⟨b,0,_,_,(0,0),rfl,h,DM _,BL _,by unfold maxLen;omega,by simp,fun j K=>by rw[Nat.zero_add];simp⟩⟩,fun b h=>(by cases h),fun b h=>(by cases h),fun b h=>(by cases h),fun k hk G=>?_⟩;simp[Value.ownBlock]at hk;subst hk;have:=z _ G;omega
theorem Z0U {P:Prop} (h:P:=by
 clear aY aZ;go_wp2_with fail;refine a1.out.mono ?_;rintro e bv ⟨v,rfl,rfl,az,aA⟩;have a2:=Z az;have a3:=Z ((ay.out.alloc _).trans aA);clear az aA;go_wp2_with fail;go_roundg (gk-1);case rel=>exact⟨f,_,aw,_,an.out.symm,rfl,by have:=I.out.len;have:=G.out;have:=J.out;omega,by have:=I.out.len;have:=G.out;have:=J.out;omega,by have:=I.out.len;have:=G.out;have:=J.out;omega,a2.out,a3.out⟩
 case measure=>have:=I.out.len;have:=G.out;have:=J.out;omega):P:=h
theorem Z0V {P:Prop} (h:P:=by
 rintro e wc ⟨rfl,O⟩;refine AR rfl ?_;rw[an.out];exact(⟨rfl,ad.out.trans O⟩:_∧_)):P:=h
theorem S9 (n:Nat) (F:EO) (a4: ∀d,Ju 3 (F d)) (aF:Qa 81 F n):Qa 62 (fun d=>Fz (F d)) n:=by
 intro av base rb d ts ns w aG h aH;have a5:=Z (fun av base rb d ts ns w a b c=>aF av base rb d ts ns w a b c);have aI:=Z (a4 d);have bk:=Z h;have aC:=Z aG;have aD:=Z (fun w ts ns s (h:CM av base w rb ts ns d)=>Kj s h);have aJ:=Z (fun w ts ns (h:CM av base w rb ts ns d)=>GV h);have aK:=Z (fun w ts ns n a b r p k h aH ae=>GZ av base rb d ts ns n a b r p k w h aH ae);unfold Al IY at aD;unfold Al Ch at aJ;unfold Al CZ An at aK;unfold sv at aD;show Calls Tryz.prog 62 #[.pointer (some ⟨rb,0,none⟩)] w (Al CZ av base w rb d (Fz (F d) ts ns));unfold Fz;have W:=Z (aF av base rb d ts ns w aG h aH);clear aF a4 h aG;obtain⟨aL,af⟩: ∃aL,F d ts ns=aL:=⟨_,rfl⟩;rw[af];cases aL with
 |bad a e=>
  rw[af]at W;rw[PR.Ku];unfold Al at W⊢;simp only[]at W⊢;clear af;go_enter Tryz.func62,Tryz.ntmps62;go_wp2_with fail;refine W.out.mono ?_;rintro e bl ⟨rfl,ae⟩;exact AR rfl ⟨rfl,ae⟩
 |ok x T a6=>
  have bm:=Z (aI.out _ _ _ _ _ bk.out.Aj af);rw[af]at W;rw[PR.Bj];obtain⟨R,ag⟩: ∃R,CR (F d) (T.length+1) x T a6=R:=⟨_,rfl⟩;have bn:=Z ag;rw[ag];unfold Al CZ at W;simp only[]at W;clear af ag;go_enter Tryz.func62,Tryz.ntmps62;go_wp2_with fail;refine W.out.mono ?_;rintro e bl ⟨v,rfl,rfl,a7,a8⟩;have bo:=Z a7;have bp:=Z a8;clear a7 a8;go_wp2_with fail;go_loopg [3] T.length (fun g bq wr=> ∃(f:Nat) (x:Int) (T:List AX) (z:List V),CR (F d) f x T z=R∧bq=.int .i64 x∧T.length<f∧T.length≤g∧T.length≤n∧CM av base wr rb T z d∧Fr base w wr);case atStart=>exact⟨_,x,T,a6,bn.out,rfl,Nat.lt_succ_self _,BL _,by have:=bm.out.len;omega,bo.out,bp.out⟩
  case round=>
   obtain⟨f,x,T,z,ag,rfl,ae,a9,a',ba,bb⟩:=hrel;have aM:=Z ag;have aE:=Z ba;have bc:=Z bb;have J:=Z (A8 ae (A8 a9 a'));obtain⟨f,rfl⟩: ∃br,f=br+1:=⟨f-1,by omega⟩;clear ag ba bb ae a9 a';obtain⟨bs,X⟩: ∃c,BR T Jq=c:=⟨_,rfl⟩;have ai:=Z (fun w (h:CM av base w rb T z d)=>by have:=aD.out w T z Jq h;rw[X]at this;exact this);unfold Jq at ai;cases bs with
   |true=>
    have aa:=Z X;have aN:=Z aE.out;clear X;have aj:=A9 aN.out.Aj aa.out;have ab:=Ad aj.1;have K:A3 T Jq=T.tail:=Ah aa.out;have aO:=Z (fun w (h:CM av base w rb T z d)=>by have:=ai.out w h;rw[show A3 T [38,38]=T.tail from K]at this;exact this);have aP:=J.out;have ak:(AG T.tail).length+1≤T.length:=(by omega);have G:=Z ak;obtain⟨L,M⟩: ∃L,AG T.tail=L:=⟨_,rfl⟩;have aQ:=Z M;have aR:=Z (fun w (h:CM av base w rb T.tail z d)=>by have:=aJ.out w T.tail z h;rw[M]at this;exact this);rw[M]at G ab;have aS:=Z ab.1;obtain⟨N,ac⟩: ∃N,F d L z=N:=⟨_,rfl⟩;have al:=Z ac;have am:=Z (fun w a b=>by have:=a5.out av base rb d L z w a b (by omega);rw[ac]at this;exact this);unfold Al CZ at am;have an:=Z (show R=N.bind fun y ts ns=>CR (F d) f ns.length ts (ns++[{ kind:=4,kids:=[x,y] }]) by rw[←aM.out,CR,Ah aa.out,aQ.out,al.out]);clear aj ab K aP ak M ac;go_wp2_with fail;refine(aO.out _ aE.out).mono ?_;rintro e bt ⟨v,rfl,rfl,ao,ap⟩;have aT:=Z ao;have aU:=Z (bc.out.trans ap);clear ao ap;go_wp2_with fail;refine(aR.out _ aT.out).mono ?_;rintro e bu ⟨v,rfl,rfl,aq,ar⟩;have au:=Z aq;have ad:=Z (aU.out.trans ar);clear aq ar;have aV:=Z (fun k (hk:av k)=>DP (aC.out k hk) ad.out.size);go_wp2_with fail;refine(am.out _ aV.out au.out).mono ?_;cases N with
    |bad a e=>
     exact Z0V
    |ok y aw aW=>
     rintro e wc ⟨v,rfl,rfl,ax,O⟩;have aX:=Z ax;have ay:=Z (ad.out.trans O);clear ax O;have I:=Z (aI.out _ _ _ _ _ aS.out al.out);have aY:=au.out.Dy;have aZ:=I.out.Dy;have a0:=Z (aX.out.grown (AF (AB wc none) (.cells #[.int .i64 x,.int .i64 y] 3)));have a1:=Z (by have:=aK.out (wc.alloc (.cells #[.int .i64 x,.int .i64 y] 3)) aw aW { kind:=4,kids:=[x,y] } (.slice none 0 0) (.slice none 0 0) (.slice none 0 0) (.slice none 0 0) (.slice (some ⟨wc.heap.size,0,none⟩) 2 2) a0.out (Ij (l:=[x,y]) (by simp) (Y.new wc 3 _) (fun k hk=>DP (aC.out k hk) ay.out.size) 4 (by simp)) (by omega);unfold AT sv at this;simp only[]at this;exact this);exact Z0U
   |false=>
    have K:A3 T Jq=T:=(by unfold A3;rw[X];rfl);have ai:=Z (fun w (h:CM av base w rb T z d)=>by have:=ai.out w h;rw[show A3 T [38,38]=T from K]at this;exact this);go_wp2_with fail;refine(ai.out _ aE.out).mono ?_;rintro e bC ⟨v,rfl,rfl,bd,be⟩;have bf:=Z bd;have bg:=Z (bc.out.trans be);clear bd be;obtain⟨bw,ah⟩: ∃c,BR T Qc=c:=⟨_,rfl⟩;have aB:=Z (fun w (h:CM av base w rb T z d)=>by have:=aD.out w T z Qc h;rw[ah]at this;exact this);unfold Qc at aB;cases bw with
    |true=>
     have aa:=Z ah;have aN:=Z aE.out;have bx:=Z X;clear X ah K;have aj:=A9 aN.out.Aj aa.out;have ab:=Ad aj.1;have K:A3 T Qc=T.tail:=Ah aa.out;have aO:=Z (fun w (h:CM av base w rb T z d)=>by have:=aB.out w h;rw[show A3 T [124,124]=T.tail from K]at this;exact this);have aP:=J.out;have ak:(AG T.tail).length+1≤T.length:=(by omega);have G:=Z ak;obtain⟨L,M⟩: ∃L,AG T.tail=L:=⟨_,rfl⟩;have aQ:=Z M;have aR:=Z (fun w (h:CM av base w rb T.tail z d)=>by have:=aJ.out w T.tail z h;rw[M]at this;exact this);rw[M]at G ab;have aS:=Z ab.1;obtain⟨N,ac⟩: ∃N,F d L z=N:=⟨_,rfl⟩;have al:=Z ac;have am:=Z (fun w a b=>by have:=a5.out av base rb d L z w a b (by omega);rw[ac]at this;exact this);unfold Al CZ at am;have an:=Z (show R=N.bind fun y ts ns=>CR (F d) f ns.length ts (ns++[{ kind:=5,kids:=[x,y] }]) by rw[←aM.out,CR,U (by rw[bx.out];decide),Ah aa.out,aQ.out,al.out]);clear aj ab K aP ak M ac;go_wp2_with fail;refine(aO.out _ bf.out).mono ?_;rintro e bt ⟨v,rfl,rfl,ao,ap⟩;have aT:=Z ao;have aU:=Z (bg.out.trans ap);clear ao ap;go_wp2_with fail;refine(aR.out _ aT.out).mono ?_;rintro e bu ⟨v,rfl,rfl,aq,ar⟩;have au:=Z aq;have ad:=Z (aU.out.trans ar);clear aq ar;have aV:=Z (fun k (hk:av k)=>DP (aC.out k hk) ad.out.size);go_wp2_with fail;refine(am.out _ aV.out au.out).mono ?_;cases N with
     |bad a e=>
      exact Z0V
     |ok y aw aW=>
      rintro e wc ⟨v,rfl,rfl,ax,O⟩;have aX:=Z ax;have ay:=Z (ad.out.trans O);clear ax O;have I:=Z (aI.out _ _ _ _ _ aS.out al.out);have aY:=au.out.Dy;have aZ:=I.out.Dy;have a0:=Z (aX.out.grown (AF (AB wc none) (.cells #[.int .i64 x,.int .i64 y] 3)));have a1:=Z (by have:=aK.out (wc.alloc (.cells #[.int .i64 x,.int .i64 y] 3)) aw aW { kind:=5,kids:=[x,y] } (.slice none 0 0) (.slice none 0 0) (.slice none 0 0) (.slice none 0 0) (.slice (some ⟨wc.heap.size,0,none⟩) 2 2) a0.out (Ij (l:=[x,y]) (by simp) (Y.new wc 3 _) (fun k hk=>DP (aC.out k hk) ay.out.size) 5 (by simp)) (by omega);unfold AT sv at this;simp only[]at this;exact this);exact Z0U
    |false=>
     have bh:A3 T Qc=T:=(by unfold A3;rw[ah];rfl);have aB:=Z (fun w (h:CM av base w rb T z d)=>by have:=aB.out w h;rw[show A3 T [124,124]=T from bh]at this;exact this);have bz:=Z (show R=.ok x T z by rw[←aM.out,CR,U (by rw[X];decide),U (by rw[ah];decide)]);clear X ah K bh;go_wp2_with fail;refine(aB.out _ bf.out).mono ?_;rintro e bD ⟨v,rfl,rfl,bi,bj⟩;have bA:=Z bi;have bB:=Z (bg.out.trans bj);clear bi bj;go_wp2_with fail;rw[bz.out];go_ret;exact⟨_,rfl,rfl,bA.out,bB.out⟩
end
section
open Go.RowKit Lx
theorem BW:(Tryz.prog.info? 3).map (fun i=>(i.zero,i.size,i.bytes))=some (some (.int .i64 0),1,8):=by kernel_rfl
theorem Jp (W:World) (b:Nat) (x:Int) (z:W.heap.size=b):Src Tryz.prog 1 30 (.slice (some ⟨b,0,none⟩) 1 1) 1 [.int .i64 x] (W.alloc (.cells #[.int .i64 x] 3)):=by
 subst z;exact Own.src (P:=Tryz.prog) (tx:=30) (e':=3) (n:=1) (xs:=[.int .i64 x]) (k:=0) (e:=3) ⟨rfl,.inr ⟨W.heap.size,0,1,_,(0,0),rfl,Y.new W 3 _,BL _,BL _,by unfold maxLen;omega,by show 0+1*1≤1;omega,fun j G=>(by(have F:j=0:=by omega);subst F;rfl)⟩⟩ (by kernel_rfl) (by intro u h;simp at h;subst h;rfl)
section
variable {av:Nat→Prop} {base:Nat→Prop} {rb d:Nat} {w W wA:World} {v vA:Value} {T:List AX} {ns:List V} {kids:List Int}
theorem Oc {S:Nat→Prop} (h:Fr base w W) (o:Obj) (z:Az S (W.alloc o) wA) (F: ∀k,S k→w.heap.size≤k):Fr base w wA:=
 Az.trans (h.alloc o) z fun i G hs=>Ai (F i hs) (by omega)
theorem NI (h:CM (fun k=>av k∨v.ownBlock=some k) base W rb T ns d) (hk:Ge W v kids) (o:Obj) (F:Az (fun b=>v.ownBlock=some b) (W.alloc o) wA) (G: ∀b,vA.ownBlock=some b→v.ownBlock=some b∨(W.alloc o).heap.size≤b):CM (fun k=>av k∨vA.ownBlock=some k) base wA rb T ns d:=by
 obtain⟨I,J,h⟩:=h;have K:=(h.grown (AF (AB W none) o)).more (S:=fun k=>(W.alloc o).heap.size≤k) (fun _ h=>h);have z: ∀k,v.ownBlock=some k→Bk (W.alloc o) k 3:=fun k e=>Own.AN (Own.alloc hk o) e
 have L:=K.Bl F (fun k hk=> .inl (.inr hk)) (fun k e=>⟨fun x=>Ai ((z k e).uniq x) (by decide),fun x=>Ai ((z k e).uniq x) (by decide),fun x=>Ai ((z k e).uniq x) (by decide)⟩);refine⟨I,J,L.mono fun k hk=>?_⟩;rcases hk with hk|hk
 ·exact .inl (.inl hk)
 ·rcases G k hk with e|e
  ·exact .inl (.inr e)
  ·exact .inr e
theorem I8 (h:CM av base W rb T ns d) (o:Obj) (n c:Nat):CM (fun k=>av k∨(Value.slice (some ⟨W.heap.size,0,none⟩) n c).ownBlock=some k) base (W.alloc o) rb T ns d:=by
 obtain⟨z,F,h⟩:=h;refine⟨z,F,((h.more (S:=fun k=>W.heap.size≤k) (fun _ h=>h)).grown (AF (AB W none) o)).mono fun k hk=>?_⟩;rcases hk with hk|hk
 ·exact .inl hk
 ·simp[Value.ownBlock]at hk;exact .inr (by omega)
theorem CM.mono {z:Nat→Prop} (F: ∀k,z k→av k) (h:CM av base W rb T ns d):CM z base W rb T ns d:=by
 obtain⟨G,I,h⟩:=h;exact⟨G,I,h.mono F⟩
theorem Mk (hk:Ge W v kids) (z: ∀b,v.ownBlock=some b→w.heap.size≤b) (F: ∀k,av k→k<w.heap.size) (kind:Int):Bi av W (.slice none 0 0) (.slice none 0 0) (.slice none 0 0) (.slice none 0 0) v { kind:=kind,kids:=kids } :=
 ⟨Own.nil _ _ _ _,Own.nil _ _ _ _,Own.nil _ _ _ _,⟨[],Own.nil _ _ _ _,fun b h=>(by cases h),fun i G=>Ai G (by simp)⟩,hk,fun b h=>(by cases h),fun b h=>(by cases h),fun b h=>(by cases h),fun b h I=>by have:=z b h;have:=F b I;omega⟩
end
structure FJ (av:Nat→Prop) (base:Nat→Prop) (w W:World) (rb:Nat) (T:List AX) (ns:List V) (d:Nat) (v:Value) (kids:List Int):Prop where
 r:CM (fun k=>av k∨v.ownBlock=some k) base W rb T ns d
 own:Ge W v kids
 new: ∀b,v.ownBlock=some b→w.heap.size≤b
 fr:Fr base w W
section
variable {av:Nat→Prop} {base:Nat→Prop} {rb d:Nat} {w W W' wA:World} {v vA:Value} {T T':List AX} {ns ns':List V} {kids:List Int}
theorem FJ.step (h:FJ av base w W rb T ns d v kids) (F:CM (fun k=>av k∨v.ownBlock=some k) base W' rb T' ns' d) (z:Fr base W W'):FJ av base w W' rb T' ns' d v kids:=⟨F,Ge.fr z h.own,h.new,h.fr.trans z⟩
theorem FJ.Ph (h:FJ av base w W rb T ns d v kids) (z: ∀k,av k→k<w.heap.size): ∀k,(av k∨v.ownBlock=some k)→k<W.heap.size:=fun k hk=>by
 rcases hk with hk|hk
 ·exact DP (z k hk) h.fr.size
 ·exact Own.lt h.own hk
theorem FJ.app (h:FJ av base w W rb T ns d v kids) (o:Obj) {y:Int} (G:Own wA 3 1 vA (kids.length+1) (kids.map (Value.int .i64)++[.int .i64 y]) 0) (z:Az (fun b=>v.ownBlock=some b) (W.alloc o) wA) (F: ∀b,vA.ownBlock=some b→v.ownBlock=some b∨(W.alloc o).heap.size≤b):FJ av base w wA rb T ns d vA (kids++[y]):=by
 refine⟨NI h.r h.own o z F,?_,fun b I=>?_,Oc h.fr o z h.new⟩
 ·unfold Ge;rw[BE,Cd,List.map_append];exact G
 ·rcases F b I with e|e
  ·exact h.new b e
  ·rw[World.size_alloc]at e;have:=h.fr.size;omega
theorem FJ.first (z:CM av base W rb T ns d) (h:Fr base w W) (x:Int):FJ av base w (W.alloc (.cells #[.int .i64 x] 3)) rb T ns d (.slice (some ⟨W.heap.size,0,none⟩) 1 1) [x]:=by
 refine⟨I8 z _ _ _,?_,fun b F=>?_,h.alloc _⟩
 ·exact⟨rfl,.inr ⟨W.heap.size,0,1,_,(0,0),rfl,Y.new W 3 _,BL _,BL _,by unfold maxLen;omega,by show 0+1*1≤1;omega,fun j G=>(by(have J:j<1:=G);(have I:j=0:=by omega);subst I;rfl)⟩⟩
 ·simp[Value.ownBlock]at F;have:=h.size;omega
theorem FJ.plain (h:FJ av base w W rb T ns d v kids):CM av base W rb T ns d:=h.r.mono fun _ hk=> .inl hk
end
theorem TW (n:Nat) (K:EO) (a6: ∀d,Ju 5 (K d)) (aK:Qa 97 K n):Qa 81 (fun d=>FB (K d)) n:=by
 intro av base rb d ts ns w a7 z a8;have bE:=Z (fun av base rb d ts ns w a b c=>aK av base rb d ts ns w a b c);have a9:=Z (a6 d);have az:=Z z;have ad:=Z a7;have aA:=Z (fun av w ts ns s (z:CM av base w rb ts ns d)=>Kj s z);have a':=Z (fun av w ts ns (z:CM av base w rb ts ns d)=>GV z);have aB:=Z (fun w ts ns n a b r p k z a8 ae=>GZ av base rb d ts ns n a b r p k w z a8 ae);unfold Al IY at aA;unfold Al Ch at a';unfold Al CZ An at aB;unfold sv at aA;show Calls Tryz.prog 81 #[.pointer (some ⟨rb,0,none⟩)] w (Al CZ av base w rb d (FB (K d) ts ns));unfold FB;have af:=IH (s:=DQ) z.Aj;obtain⟨G,aL⟩: ∃G,BR ts DQ=G:=⟨_,rfl⟩;obtain⟨ag,aM⟩: ∃ag,A3 ts DQ=ag:=⟨_,rfl⟩;have aN:=Z (fun w z=>by have:=aA.out av w ts ns DQ z;rw[aL,aM]at this;exact this);unfold DQ at aN;rw[aM]at af⊢;rw[aL];have al:=Z af;have am:=Z (fun w a b=>aK av base rb d ag ns w a b (by have:=al.out.2;omega));clear aK a6 z a7 af aL aM;obtain⟨aO,aC⟩: ∃aO,K d ag ns=aO:=⟨_,rfl⟩;rw[aC];have am:=Z (fun w a b=>by have:=am.out w a b;rw[aC]at this;exact this);unfold Al CZ at am;have bF:=Z aC;clear aC;cases aO with
 |bad a e=>
  rw[PR.Ku];unfold Al;simp only[];go_enter Tryz.func81,Tryz.ntmps81;go_wp2_with fail;refine(aN.out _ az.out).mono ?_;rintro e bG ⟨v,rfl,rfl,an,ao⟩;have aP:=Z an;have ap:=Z ao;clear an ao;go_wp2_with fail;refine(am.out _ (fun k hk=>DP (ad.out k hk) ap.out.size) aP.out).mono ?_;rintro e bH ⟨rfl,ae⟩;exact AR rfl ⟨rfl,ap.out.trans ae⟩
 |ok x T ba=>
  have aQ:=Z (a9.out _ _ _ _ _ al.out.1 bF.out);rw[PR.Bj];obtain⟨R,ah⟩: ∃R,((DD (K d) (T.length+1) [x] T ba).bind fun kids L ns=>if 1<kids.length then FL G ns.length L (ns++[{ kind:=3,kids:=kids }])else FL G (kids.headD 0) L ns)=R:=⟨_,rfl⟩;have bI:=Z ah;rw[ah];clear ah;go_enter Tryz.func81,Tryz.ntmps81;go_wp2_with fail;refine(aN.out _ az.out).mono ?_;rintro e bG ⟨v,rfl,rfl,an,ao⟩;have aP:=Z an;have ap:=Z ao;clear an ao;go_wp2_with fail;refine(am.out _ (fun k hk=>DP (ad.out k hk) ap.out.size) aP.out).mono ?_;rintro e bH ⟨v,rfl,rfl,bb,bc⟩;have X:=Z (FJ.first bb (ap.out.trans bc) x);clear bb bc;go_wp2_with fail;go_loopg [4] T.length (fun g bJ wr=> ∃(f:Nat) (kids:List Int) (T:List AX) (h:List V),((DD (K d) f kids T h).bind fun kids L ns=>if 1<kids.length then FL G ns.length L (ns++[{ kind:=3,kids:=kids }])else FL G (kids.headD 0) L ns)=R∧T.length<f∧T.length≤g∧T.length≤n∧kids≠[]∧kids.length+T.length≤100000∧h.length+10*T.length+5≤100000∧FJ av base w wr rb T h d bJ kids);case atStart=>exact⟨_,[x],T,ba,bI.out,Nat.lt_succ_self _,BL _,by have:=aQ.out.len;have:=al.out.2;omega,by simp,by have:=aQ.out.len;have:=al.out.2;have:=az.out.Dy;simp only[Cd];omega,by have:=aQ.out.Dy;have:=al.out.2;have:=az.out.Dy;omega,X.out⟩
  case round=>
   obtain⟨f,kids,T,h,ah,ae,bd,be,aR,aS,bf,aT⟩:=hrel;have bg:=Z ah;have X:=Z aT;have I:=Z (A8 ae (A8 bd (A8 be (A8 aS bf))));have bK:=Z aR;obtain⟨aD,aq,rfl,bh,_⟩:=Own.form aT.own;obtain⟨f,rfl⟩: ∃bL,f=bL+1:=⟨f-1,by omega⟩;clear ah ae bd be bf aT;obtain⟨bM,ai⟩: ∃c,BR T Fm=c:=⟨_,rfl⟩;have bi:=Z (fun w z=>by have:=aA.out (fun k=>av k∨(Value.slice aD kids.length aq).ownBlock=some k) w T h Fm z;rw[ai]at this;exact this);cases bM with
   |true=>
    have aU:=Z ai;have af:=A9 X.out.r.Aj aU.out;have aV:=Ad af.1;have ar:=Z (fun w z=>by have:=bi.out w z;rw[show A3 T Fm=T.tail from Ah aU.out]at this;exact this);unfold Fm at ar;have bN:=I.out;have M:=Z (show(AG T.tail).length+1≤T.length by omega);obtain⟨bj,aE⟩: ∃ag,AG T.tail=ag:=⟨_,rfl⟩;have bO:=Z aE;have bP:=Z (fun w z=>by have:=a'.out (fun k=>av k∨(Value.slice aD kids.length aq).ownBlock=some k) w T.tail h z;rw[aE]at this;exact this);rw[aE]at M aV;have bQ:=Z aV.1;obtain⟨aF,aW⟩: ∃aF,K d bj h=aF:=⟨_,rfl⟩;have bk:=Z aW;have bl:=Z (fun w a b=>by have:=bE.out (fun k=>av k∨(Value.slice aD kids.length aq).ownBlock=some k) base rb d bj h w a b (by have:=M.out;omega);rw[aW]at this;exact this);unfold Al CZ at bl;have bm:=Z (show R=((aF.bind fun y ts ns=>DD (K d) f (kids++[y]) ts ns).bind fun kids L ns=>if 1<kids.length then FL G ns.length L (ns++[{ kind:=3,kids:=kids }])else FL G (kids.headD 0) L ns) by rw[←bg.out,DD,Ah aU.out,bO.out,bk.out]);clear af aV bN aE aW ai;go_wp2_with fail;refine(ar.out _ X.out.r).mono ?_;rintro e aa ⟨v,rfl,rfl,au,aw⟩;have N:=Z (X.out.step au aw);clear au aw;go_wp2_with fail;refine(bP.out _ N.out.r).mono ?_;rintro e bX ⟨v,rfl,rfl,bn,bo⟩;have aG:=Z (N.out.step bn bo);clear bn bo;go_wp2_with fail;refine(bl.out _ (aG.out.Ph ad.out) aG.out.r).mono ?_;cases aF with
    |bad a e=>
     rintro e wc ⟨rfl,aH⟩;refine AR rfl ?_;rw[bm.out];exact(⟨rfl,aG.out.fr.trans aH⟩:_∧_)
    |ok y bR bS=>
     rintro e wc ⟨v,rfl,rfl,bp,aH⟩;have bq:=Z (aG.out.step bp aH);clear bp aH;have aj:=Z (a9.out _ _ _ _ _ bQ.out bk.out);go_wp2_with (at_builtin;refine AU 3 (.int .i64 0) 1 8 Tryz.underlying30 BW rfl (.slice aD kids.length aq) kids.length (kids.map (Value.int .i64)) 0 _ 1 [.int .i64 y] rfl rfl (Own.alloc bq.out.own _) (by omega) (Jp _ _ y rfl) (by unfold maxLen;omega) (by omega) ?_;intro vA wA br bs bt _;(have bT:=Z (bq.out.app _ br bs bt));clear br bs bt);go_roundg (gk-1);case rel=>exact⟨f,_,bR,bS,bm.out.symm,by have:=aj.out.len;have:=M.out;have:=I.out;omega,by have:=aj.out.len;have:=M.out;have:=I.out;omega,by have:=aj.out.len;have:=M.out;have:=I.out;omega,by simp,by have:=aj.out.len;have:=M.out;have:=I.out;simp only[BE,Cd];omega,by have:=aj.out.Dy;have:=M.out;have:=I.out;omega,bT.out⟩
     case measure=>have:=aj.out.len;have:=M.out;have:=I.out;omega
   |false=>
    have ar:=Z (fun w z=>by have:=bi.out w z;rw[show A3 T Fm=T from by unfold A3;rw[ai];rfl]at this;exact this);unfold Fm at ar;have bu:=Z (show R=(if 1<kids.length then FL G h.length T (h++[{ kind:=3,kids:=kids }])else FL G (kids.headD 0) T h) by rw[←bg.out,DD,U (by rw[ai];decide)];rfl);clear ai;go_wp2_with fail;refine(ar.out _ X.out.r).mono ?_;rintro e aa ⟨v,rfl,rfl,au,aw⟩;have N:=Z (X.out.step au aw);clear au aw;obtain⟨F,J,rfl⟩: ∃F J,kids=F::J:=by
     cases kids with
     |nil=>exact Ai rfl bK.out
     |cons a b=>exact⟨a,b,rfl⟩
    obtain⟨bv,bw,bY,aX,_,_,bU,aY⟩:=N.out.own.some_ (by simp);injection aX with aX _ bx;subst aX;have bV:aa.cell? ⟨bv,bw,none⟩=some (.int .i64 F):=aY 0 (by simp);have aZ:(0:Int)<(((F::J).length:Nat):Int):=(by simp only[BP];omega);have a0:=Z N.out.plain;have aI:=Z N.out.fr;by_cases ak:1<(F::J).length
    ·have ab:=Z (show R=FL G h.length T (h++[{ kind:=3,kids:=F::J }])from bu.out.trans (Ah ak));have bz:=Z (by have:=aB.out aa T h { kind:=3,kids:=F::J } (.slice none 0 0) (.slice none 0 0) (.slice none 0 0) (.slice none 0 0) (.slice (some ⟨bv,bw,none⟩) (F::J).length aq) a0.out (Mk N.out.own N.out.new ad.out 3) (by have:=I.out;omega);unfold AT sv at this;simp only[]at this;exact this);obtain⟨ac,O⟩: ∃ac,(F::J).length=ac:=⟨_,rfl⟩;rw[O]at ak aZ bz;have bA:decide ((1:Int)<(ac:Int))=true:=At (by omega);have bZ:=Z O;simp only[O];clear O aY aS aR bx bh ak;go_wp2_with fail;refine bz.out.mono ?_;rintro e aJ ⟨v,rfl,rfl,bB,bC⟩;have bD:=Z bB;have a1:=Z (aI.out.trans bC);clear bB bC bV bU aZ bA;unfold FL An at ab;cases G with
     |true=>
      have a2:=Z (bD.out.grown (AF (AB aJ none) (.cells #[.int .i64 ((h.length:Int))] 3)));have a3:=Z (by have:=aB.out (aJ.alloc (.cells #[.int .i64 ((h.length:Int))] 3)) T (h++[{ kind:=3,kids:=F::J }]) { kind:=2,kids:=[(h.length:Int)] } (.slice none 0 0) (.slice none 0 0) (.slice none 0 0) (.slice none 0 0) (.slice (some ⟨aJ.heap.size,0,none⟩) 1 1) a2.out (Ij (l:=[(h.length:Int)]) (by simp) (Y.new aJ 3 _) (fun k hk=>DP (ad.out k hk) a1.out.size) 2 (by simp)) (by have:=I.out;rw[BE,Cd];omega);unfold AT sv at this;simp only[]at this;exact this);go_wp2_with fail;refine a3.out.mono ?_;rintro e bW ⟨v,rfl,rfl,ax,ay⟩;have a4:=Z ax;have a5:=Z ((a1.out.alloc _).trans ay);clear ax ay;go_wp2_with fail;rw[ab.out];go_ret;(refine⟨_,?_,rfl,a4.out,a5.out⟩;exact E3 (by simp))
     |false=>
      go_wp2_with fail;rw[ab.out];go_ret;exact⟨_,rfl,rfl,bD.out,a1.out⟩
    ·have ab:=Z (show R=FL G F T h from bu.out.trans (U ak));obtain⟨ac,O⟩: ∃ac,(F::J).length=ac:=⟨_,rfl⟩;rw[O]at ak aZ;have bA:decide ((1:Int)<(ac:Int))=false:=Aq (by omega);simp only[O];clear O aY aS aR bx bh ak;unfold FL An at ab;cases G with
     |true=>
      have a2:=Z (a0.out.grown (AF (AB aa none) (.cells #[.int .i64 (F)] 3)));have a3:=Z (by have:=aB.out (aa.alloc (.cells #[.int .i64 (F)] 3)) T (h) { kind:=2,kids:=[F] } (.slice none 0 0) (.slice none 0 0) (.slice none 0 0) (.slice none 0 0) (.slice (some ⟨aa.heap.size,0,none⟩) 1 1) a2.out (Ij (l:=[F]) (by simp) (Y.new aa 3 _) (fun k hk=>DP (ad.out k hk) aI.out.size) 2 (by simp)) (by have:=I.out;omega);unfold AT sv at this;simp only[]at this;exact this);go_wp2_with fail;refine a3.out.mono ?_;rintro e bW ⟨v,rfl,rfl,ax,ay⟩;have a4:=Z ax;have a5:=Z ((aI.out.alloc _).trans ay);clear ax ay;go_wp2_with fail;rw[ab.out];go_ret;exact⟨_,rfl,rfl,a4.out,a5.out⟩
     |false=>
      go_wp2_with fail;rw[ab.out];go_ret;exact⟨_,rfl,rfl,a0.out,aI.out⟩
end
end Go.Proofs.YtdhfhphbkfgamaaGreat
