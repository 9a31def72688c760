/- A part. -/
import Derived.Test.YtdhfhphbkfgamaaGreatPi
set_option maxRecDepth 100000
set_option linter.all false
set_option maxHeartbeats 0
namespace Go.Proofs.YtdhfhphbkfgamaaGreat
section
open Go.RowKit Lx Proofs.Tryz
section
variable {av:Nat->Prop}{base:Nat->Prop}{rb d:Nat}{w w':World}{ts:List AY}{ns:List V}
theorem Kx(s:List UInt8)(h:CQ av base w rb ts ns d):Calls prog 63 #[.pointer (some ⟨rb,0,none⟩),sv s] w (Am I9 av base w rb d (.ok (BT ts s) (A5 ts s) ns)):=by
 obtain⟨z,F,h⟩:=h;exact(LI av base rb d F ts ns s w ⟨z,h⟩).mono fun e w' G=>Br.g h G
theorem Mx(s:List UInt8)(h:CQ av base w rb ts ns d):Calls prog 123 #[.pointer (some ⟨rb,0,none⟩),sv s] w (Am Cr av base w rb d (AX s ts ns)):=by
 obtain⟨z,F,h⟩:=h;exact(NA av base rb d F ts ns s w ⟨z,h⟩).mono fun e w' G=>Br.g h G
theorem Gi(h:CQ av base w rb ts ns d):Calls prog 29 #[.pointer (some ⟨rb,0,none⟩)] w (Am Cr av base w rb d (.ok () (AG ts) ns)):=by
 obtain⟨z,F,h⟩:=h;exact(LX av base rb d F ts ns w ⟨z,h⟩).mono fun e w' G=>Br.g h G
end
def RG(fn:FuncId)(spec:Eg)(n:Nat):Prop:=∀(av:Nat->Prop) (base:Nat->Prop) (rb d:Nat) (ts:List AY) (ns:List V) (w:World),(∀k,av k->k<w.heap.size)->CQ av base w rb ts ns d->ts.length<=n->
 Calls prog fn #[.pointer (some ⟨rb,0,none⟩)] w (Am Cg av base w rb d (spec d ts ns))
theorem JG{av:Nat->Prop}{w:World}{b:Nat}{l:List Int}(I:l.length<=100000)(h:Y w b 3 (l.map (Value.int .i64)).toArray)(z:∀k,av k->k<b)(kind:Int)(J:0<l.length):
  Bk av w (.slice none 0 0) (.slice none 0 0) (.slice none 0 0) (.slice none 0 0) (.slice (some ⟨b,0,none⟩) l.length l.length) { kind:=kind,kids:=l } :=by
 refine⟨Own.nil _ _ _ _,Own.nil _ _ _ _,Own.nil _ _ _ _,⟨[],Own.nil _ _ _ _,fun b h=>(by cases h),fun i F=>Aj F (by simp)⟩,⟨by simp,.inr ⟨b,0,_,_,(0,0),rfl,h,DD _,BN _,by unfold maxLen;omega,by simp,fun j K=>by rw[Dc];simp⟩⟩,fun b h=>(by cases h),fun b h=>(by cases h),fun b h=>(by cases h),fun k hk G=>?_⟩;simp[Value.ownBlock]at hk;subst hk;have:=z _ G;omega
theorem Ud(n:Nat)(F:Eg)(a3:∀d,Ki 3 (F d))(aF:RG 81 F n):RG 62 (fun d=>GV (F d)) n:=by
 intro av base rb d ts ns w aG h aH;have a4:=Z (fun av base rb d ts ns w a b c=>aF av base rb d ts ns w a b c);have aI:=Z (a3 d);have bj:=Z h;have aC:=Z aG;have aD:=Z (fun w ts ns s (h:CQ av base w rb ts ns d)=>Kx s h);have aJ:=Z (fun w ts ns (h:CQ av base w rb ts ns d)=>Gi h);have aK:=Z (fun w ts ns n a b r p k h aH ac=>Hg av base rb d ts ns n a b r p k w h aH ac);unfold Am I9 at aD;unfold Am Cr at aJ;unfold Am Cg Ao at aK;unfold sv at aD;show Calls prog 62 #[.pointer (some ⟨rb,0,none⟩)] w (Am Cg av base w rb d (GV (F d) ts ns));unfold GV;have N:=Z (aF av base rb d ts ns w aG h aH);clear aF a3 h aG;obtain⟨bk,ad⟩:=U (F d ts ns);rw[ad];cases bk with
 |bad a e=>
  rw[ad]at N;rw[PR.LG];unfold Am at N⊢;simp only[]at N⊢;clear ad;go_enter func62,ntmps62;go_wp2_with fail;refine N.out.mono ?_;rintro e bl ⟨rfl,ac⟩;exact AS rfl ⟨rfl,ac⟩
 |ok x T a5=>
  have bm:=Z (aI.out _ _ _ _ _ bj.out.Ak ad);rw[ad]at N;rw[PR.Bm];obtain⟨R,ae⟩:=U (CY (F d) (T.length+1) x T a5);have bn:=Z ae;rw[ae];unfold Am Cg at N;simp only[]at N;clear ad ae;go_enter func62,ntmps62;go_wp2_with fail;refine N.out.mono ?_;rintro e bl ⟨v,rfl,rfl,a6,a7⟩;have bo:=Z a6;have bp:=Z a7;clear a6 a7;go_wp2_with fail;go_loopg [3] T.length (fun g bq wr=> ∃(f:Nat) (x:Int) (T:List AY) (z:List V),CY (F d) f x T z=R/\bq=.int .i64 x/\T.length<f/\T.length<=g/\T.length<=n/\CQ av base wr rb T z d/\Fr base w wr);case atStart=>exact⟨_,x,T,a5,bn.out,rfl,Nat.lt_succ_self _,BN _,by have:=bm.out.len;omega,bo.out,bp.out⟩
  case round=>
   obtain⟨f,x,T,z,ae,rfl,ac,a8,a9,a',ba⟩:=hrel;have aL:=Z ae;have aE:=Z a';have bb:=Z ba;have J:=Z (BC ac (BC a8 a9));obtain⟨f,rfl⟩:∃br,f=br+1:=⟨f-1,by omega⟩;clear ae a' ba ac a8 a9;obtain⟨bs,O⟩:=U (BT T KV);have ag:=Z (fun w (h:CQ av base w rb T z d)=>by have:=aD.out w T z KV h;rw[O]at this;exact this);unfold KV at ag;cases bs with
   |true=>
    have W:=Z O;have aM:=Z aE.out;clear O;have ah:=BD aM.out.Ak W.out;have X:=Ae ah.1;have K:A5 T KV=T.tail:=Ai W.out;have aN:=Z (fun w (h:CQ av base w rb T z d)=>by have:=ag.out w h;rw[show A5 T [38,38]=T.tail from K]at this;exact this);have aO:=J.out;have ai:(AG T.tail).length+1<=T.length:=(by omega);have G:=Z ai;obtain⟨aj,L⟩:=U (AG T.tail);have aP:=Z L;have aQ:=Z (fun w (h:CQ av base w rb T.tail z d)=>by have:=aJ.out w T.tail z h;rw[L]at this;exact this);rw[L]at G X;have aR:=Z X.1;obtain⟨ak,aa⟩:=U (F d aj z);have al:=Z aa;have am:=Z (fun w a b=>by have:=a4.out av base rb d aj z w a b (by omega);rw[aa]at this;exact this);unfold Am Cg at am;have an:=Z (show R=ak.bind fun y ts ns=>CY (F d) f ns.length ts (ns++[{ kind:=4,kids:=[x,y] }]) by rw[<-aL.out,CY,Ai W.out,aP.out,al.out]);clear ah X K aO ai L aa;go_wp2_with fail;refine(aN.out _ aE.out).mono ?_;rintro e bt ⟨v,rfl,rfl,ao,ap⟩;have aS:=Z ao;have aT:=Z (bb.out.trans ap);clear ao ap;go_wp2_with fail;refine(aQ.out _ aS.out).mono ?_;rintro e bu ⟨v,rfl,rfl,aq,ar⟩;have au:=Z aq;have ab:=Z (aT.out.trans ar);clear aq ar;have aU:=Z (fun k (hk:av k)=>DZ (aC.out k hk) ab.out.size);go_wp2_with fail;refine(am.out _ aU.out au.out).mono ?_;cases ak with
    |bad a e=>
     rintro e wc ⟨rfl,M⟩;refine AS rfl ?_;rw[an.out];exact(⟨rfl,ab.out.trans M⟩:_/\_)
    |ok y aw aV=>
     rintro e wc ⟨v,rfl,rfl,ax,M⟩;have aW:=Z ax;have ay:=Z (ab.out.trans M);clear ax M;have I:=Z (aI.out _ _ _ _ _ aR.out al.out);have aX:=au.out.EG;have aY:=I.out.EG;have aZ:=Z (aW.out.grown (AF (AB wc none) (.cells #[.int .i64 x,.int .i64 y] 3)));have a0:=Z (by have:=aK.out (wc.alloc (.cells #[.int .i64 x,.int .i64 y] 3)) aw aV { kind:=4,kids:=[x,y] } (.slice none 0 0) (.slice none 0 0) (.slice none 0 0) (.slice none 0 0) (.slice (some ⟨wc.heap.size,0,none⟩) 2 2) aZ.out (JG (l:=[x,y]) (by simp) (Y.new wc 3 _) (fun k hk=>DZ (aC.out k hk) ay.out.size) 4 (by simp)) (by omega);unfold AU sv at this;simp only[]at this;exact this);clear aX aY;go_wp2_with fail;refine a0.out.mono ?_;rintro e bv ⟨v,rfl,rfl,az,aA⟩;have a1:=Z az;have a2:=Z ((ay.out.alloc _).trans aA);clear az aA;go_wp2_with fail;go_roundg (gk-1);case rel=>exact⟨f,_,aw,_,an.out.symm,rfl,by have:=I.out.len;have:=G.out;have:=J.out;omega,by have:=I.out.len;have:=G.out;have:=J.out;omega,by have:=I.out.len;have:=G.out;have:=J.out;omega,a1.out,a2.out⟩
     case measure=>have:=I.out.len;have:=G.out;have:=J.out;omega
   |false=>
    have K:A5 T KV=T:=(by unfold A5;rw[O];rfl);have ag:=Z (fun w (h:CQ av base w rb T z d)=>by have:=ag.out w h;rw[show A5 T [38,38]=T from K]at this;exact this);go_wp2_with fail;refine(ag.out _ aE.out).mono ?_;rintro e bC ⟨v,rfl,rfl,bc,bd⟩;have be:=Z bc;have bf:=Z (bb.out.trans bd);clear bc bd;obtain⟨bw,af⟩:=U (BT T RH);have aB:=Z (fun w (h:CQ av base w rb T z d)=>by have:=aD.out w T z RH h;rw[af]at this;exact this);unfold RH at aB;cases bw with
    |true=>
     have W:=Z af;have aM:=Z aE.out;have bx:=Z O;clear O af K;have ah:=BD aM.out.Ak W.out;have X:=Ae ah.1;have K:A5 T RH=T.tail:=Ai W.out;have aN:=Z (fun w (h:CQ av base w rb T z d)=>by have:=aB.out w h;rw[show A5 T [124,124]=T.tail from K]at this;exact this);have aO:=J.out;have ai:(AG T.tail).length+1<=T.length:=(by omega);have G:=Z ai;obtain⟨aj,L⟩:=U (AG T.tail);have aP:=Z L;have aQ:=Z (fun w (h:CQ av base w rb T.tail z d)=>by have:=aJ.out w T.tail z h;rw[L]at this;exact this);rw[L]at G X;have aR:=Z X.1;obtain⟨ak,aa⟩:=U (F d aj z);have al:=Z aa;have am:=Z (fun w a b=>by have:=a4.out av base rb d aj z w a b (by omega);rw[aa]at this;exact this);unfold Am Cg at am;have an:=Z (show R=ak.bind fun y ts ns=>CY (F d) f ns.length ts (ns++[{ kind:=5,kids:=[x,y] }]) by rw[<-aL.out,CY,AP (by rw[bx.out];decide),Ai W.out,aP.out,al.out]);clear ah X K aO ai L aa;go_wp2_with fail;refine(aN.out _ be.out).mono ?_;rintro e bt ⟨v,rfl,rfl,ao,ap⟩;have aS:=Z ao;have aT:=Z (bf.out.trans ap);clear ao ap;go_wp2_with fail;refine(aQ.out _ aS.out).mono ?_;rintro e bu ⟨v,rfl,rfl,aq,ar⟩;have au:=Z aq;have ab:=Z (aT.out.trans ar);clear aq ar;have aU:=Z (fun k (hk:av k)=>DZ (aC.out k hk) ab.out.size);go_wp2_with fail;refine(am.out _ aU.out au.out).mono ?_;cases ak with
     |bad a e=>
      rintro e wc ⟨rfl,M⟩;refine AS rfl ?_;rw[an.out];exact(⟨rfl,ab.out.trans M⟩:_/\_)
     |ok y aw aV=>
      rintro e wc ⟨v,rfl,rfl,ax,M⟩;have aW:=Z ax;have ay:=Z (ab.out.trans M);clear ax M;have I:=Z (aI.out _ _ _ _ _ aR.out al.out);have aX:=au.out.EG;have aY:=I.out.EG;have aZ:=Z (aW.out.grown (AF (AB wc none) (.cells #[.int .i64 x,.int .i64 y] 3)));have a0:=Z (by have:=aK.out (wc.alloc (.cells #[.int .i64 x,.int .i64 y] 3)) aw aV { kind:=5,kids:=[x,y] } (.slice none 0 0) (.slice none 0 0) (.slice none 0 0) (.slice none 0 0) (.slice (some ⟨wc.heap.size,0,none⟩) 2 2) aZ.out (JG (l:=[x,y]) (by simp) (Y.new wc 3 _) (fun k hk=>DZ (aC.out k hk) ay.out.size) 5 (by simp)) (by omega);unfold AU sv at this;simp only[]at this;exact this);clear aX aY;go_wp2_with fail;refine a0.out.mono ?_;rintro e bv ⟨v,rfl,rfl,az,aA⟩;have a1:=Z az;have a2:=Z ((ay.out.alloc _).trans aA);clear az aA;go_wp2_with fail;go_roundg (gk-1);case rel=>exact⟨f,_,aw,_,an.out.symm,rfl,by have:=I.out.len;have:=G.out;have:=J.out;omega,by have:=I.out.len;have:=G.out;have:=J.out;omega,by have:=I.out.len;have:=G.out;have:=J.out;omega,a1.out,a2.out⟩
      case measure=>have:=I.out.len;have:=G.out;have:=J.out;omega
    |false=>
     have bg:A5 T RH=T:=(by unfold A5;rw[af];rfl);have aB:=Z (fun w (h:CQ av base w rb T z d)=>by have:=aB.out w h;rw[show A5 T [124,124]=T from bg]at this;exact this);have bz:=Z (show R=.ok x T z by rw[<-aL.out,CY,AP (by rw[O];decide),AP (by rw[af];decide)]);clear O af K bg;go_wp2_with fail;refine(aB.out _ be.out).mono ?_;rintro e bD ⟨v,rfl,rfl,bh,bi⟩;have bA:=Z bh;have bB:=Z (bf.out.trans bi);clear bh bi;go_wp2_with fail;rw[bz.out];go_ret;exact⟨_,rfl,rfl,bA.out,bB.out⟩
end
section
open Go.RowKit Lx Proofs.Tryz
theorem Ba:(prog.info? 3).map (fun i=>(i.zero,i.size,i.bytes))=some (some (.int .i64 0),1,8):=by kernel_rfl
theorem KR(W:World)(b:Nat)(x:Int)(z:W.heap.size=b):Src prog 1 30 (.slice (some ⟨b,0,none⟩) 1 1) 1 [.int .i64 x] (W.alloc (.cells #[.int .i64 x] 3)):=by
 subst z;exact Own.src (P:=prog) (tx:=30) (e':=3) (n:=1) (xs:=[.int .i64 x]) (k:=0) (e:=3) ⟨rfl,.inr ⟨W.heap.size,0,1,_,(0,0),rfl,Y.new W 3 _,BN _,BN _,by unfold maxLen;omega,by show 0+1*1<=1;omega,fun j G=>(by(have F:j=0:=by omega);subst F;rfl)⟩⟩ (by kernel_rfl) (by intro u h;simp at h;subst h;rfl)
section
variable {av:Nat->Prop}{base:Nat->Prop}{rb d:Nat}{w W wA:World}{v vA:Value}{T:List AY}{ns:List V}{kids:List Int}
theorem Oh{S:Nat->Prop}(h:Fr base w W)(o:Obj)(z:Az S (W.alloc o) wA)(F:∀k,S k->w.heap.size<=k):Fr base w wA:=
 Az.trans (h.alloc o) z fun i G hs=>Aj (F i hs) (by omega)
theorem Nn(h:CQ (fun k=>av k\/v.ownBlock=some k) base W rb T ns d)(hk:He W v kids)(o:Obj)(F:Az (fun b=>v.ownBlock=some b) (W.alloc o) wA)(G:∀b,vA.ownBlock=some b->v.ownBlock=some b\/(W.alloc o).heap.size<=b):CQ (fun k=>av k\/vA.ownBlock=some k) base wA rb T ns d:=by
 obtain⟨I,J,h⟩:=h;have K:=(h.grown (AF (AB W none) o)).more (S:=fun k=>(W.alloc o).heap.size<=k) (fun _ h=>h);have z:∀k,v.ownBlock=some k->Bn (W.alloc o) k 3:=fun k e=>Own.AO (Own.alloc hk o) e
 have L:=K.Bo F (fun k hk=> .inl (.inr hk)) (fun k e=>⟨fun x=>Aj ((z k e).uniq x) (by decide),fun x=>Aj ((z k e).uniq x) (by decide),fun x=>Aj ((z k e).uniq x) (by decide)⟩);refine⟨I,J,L.mono fun k hk=>?_⟩;rcases hk with hk|hk
 ·exact .inl (.inl hk)
 ·rcases G k hk with e|e
  ·exact .inl (.inr e)
  ·exact .inr e
theorem Jm(h:CQ av base W rb T ns d)(o:Obj)(n c:Nat):CQ (fun k=>av k\/(Value.slice (some ⟨W.heap.size,0,none⟩) n c).ownBlock=some k) base (W.alloc o) rb T ns d:=by
 obtain⟨z,F,h⟩:=h;refine⟨z,F,((h.more (S:=fun k=>W.heap.size<=k) (fun _ h=>h)).grown (AF (AB W none) o)).mono fun k hk=>?_⟩;rcases hk with hk|hk
 ·exact .inl hk
 ·simp[Value.ownBlock]at hk;exact .inr (by omega)
theorem CQ.mono{z:Nat->Prop}(F:∀k,z k->av k)(h:CQ av base W rb T ns d):CQ z base W rb T ns d:=by
 obtain⟨G,I,h⟩:=h;exact⟨G,I,h.mono F⟩
theorem Nl(hk:He W v kids)(z:∀b,v.ownBlock=some b->w.heap.size<=b)(F:∀k,av k->k<w.heap.size)(kind:Int):Bk av W (.slice none 0 0) (.slice none 0 0) (.slice none 0 0) (.slice none 0 0) v { kind:=kind,kids:=kids } :=
 ⟨Own.nil _ _ _ _,Own.nil _ _ _ _,Own.nil _ _ _ _,⟨[],Own.nil _ _ _ _,fun b h=>(by cases h),fun i G=>Aj G (by simp)⟩,hk,fun b h=>(by cases h),fun b h=>(by cases h),fun b h=>(by cases h),fun b h I=>by have:=z b h;have:=F b I;omega⟩
end
structure Fh(av:Nat->Prop)(base:Nat->Prop)(w W:World)(rb:Nat)(T:List AY)(ns:List V)(d:Nat)(v:Value)(kids:List Int):Prop where
 r:CQ (fun k=>av k\/v.ownBlock=some k) base W rb T ns d
 own:He W v kids
 new:∀b,v.ownBlock=some b->w.heap.size<=b
 fr:Fr base w W
section
variable {av:Nat->Prop}{base:Nat->Prop}{rb d:Nat}{w W W' wA:World}{v vA:Value}{T T':List AY}{ns ns':List V}{kids:List Int}
theorem Fh.step(h:Fh av base w W rb T ns d v kids)(F:CQ (fun k=>av k\/v.ownBlock=some k) base W' rb T' ns' d)(z:Fr base W W'):Fh av base w W' rb T' ns' d v kids:=⟨F,He.fr z h.own,h.new,h.fr.trans z⟩
theorem Fh.Ql(h:Fh av base w W rb T ns d v kids)(z:∀k,av k->k<w.heap.size):∀k,(av k\/v.ownBlock=some k)->k<W.heap.size:=fun k hk=>by
 rcases hk with hk|hk
 ·exact DZ (z k hk) h.fr.size
 ·exact Own.lt h.own hk
theorem Fh.app(h:Fh av base w W rb T ns d v kids)(o:Obj){y:Int}(G:Own wA 3 1 vA (kids.length+1) (kids.map (Value.int .i64)++[.int .i64 y]) 0)(z:Az (fun b=>v.ownBlock=some b) (W.alloc o) wA)(F:∀b,vA.ownBlock=some b->v.ownBlock=some b\/(W.alloc o).heap.size<=b):Fh av base w wA rb T ns d vA (kids++[y]):=by
 refine⟨Nn h.r h.own o z F,?_,fun b I=>?_,Oh h.fr o z h.new⟩
 ·unfold He;rw[BG,Cj,FN];exact G
 ·rcases F b I with e|e
  ·exact h.new b e
  ·rw[BW]at e;have:=h.fr.size;omega
theorem Fh.first(z:CQ av base W rb T ns d)(h:Fr base w W)(x:Int):Fh av base w (W.alloc (.cells #[.int .i64 x] 3)) rb T ns d (.slice (some ⟨W.heap.size,0,none⟩) 1 1) [x]:=by
 refine⟨Jm z _ _ _,?_,fun b F=>?_,h.alloc _⟩
 ·exact⟨rfl,.inr ⟨W.heap.size,0,1,_,(0,0),rfl,Y.new W 3 _,BN _,BN _,by unfold maxLen;omega,by show 0+1*1<=1;omega,fun j G=>(by(have J:j<1:=G);(have I:j=0:=by omega);subst I;rfl)⟩⟩
 ·simp[Value.ownBlock]at F;have:=h.size;omega
theorem Fh.plain(h:Fh av base w W rb T ns d v kids):CQ av base W rb T ns d:=h.r.mono fun _ hk=> .inl hk
end
theorem TM(n:Nat)(K:Eg)(a3:∀d,Ki 5 (K d))(aH:RG 97 K n):RG 81 (fun d=>FM (K d)) n:=by
 intro av base rb d ts ns w a4 z a5;have bD:=Z (fun av base rb d ts ns w a b c=>aH av base rb d ts ns w a b c);have a6:=Z (a3 d);have ax:=Z z;have ac:=Z a4;have ay:=Z (fun av w ts ns s (z:CQ av base w rb ts ns d)=>Kx s z);have a7:=Z (fun av w ts ns (z:CQ av base w rb ts ns d)=>Gi z);have az:=Z (fun w ts ns n a b r p k z a5 ad=>Hg av base rb d ts ns n a b r p k w z a5 ad);unfold Am I9 at ay;unfold Am Cr at a7;unfold Am Cg Ao at az;unfold sv at ay;show Calls prog 81 #[.pointer (some ⟨rb,0,none⟩)] w (Am Cg av base w rb d (FM (K d) ts ns));unfold FM;have ae:=Iu (s:=Da) z.Ak;obtain⟨G,aI⟩:=U (BT ts Da);obtain⟨a8,aJ⟩:=U (A5 ts Da);have aK:=Z (fun w z=>by have:=ay.out av w ts ns Da z;rw[aI,aJ]at this;exact this);unfold Da at aK;rw[aJ]at ae⊢;rw[aI];have aj:=Z ae;have ak:=Z (fun w a b=>aH av base rb d a8 ns w a b (by have:=aj.out.2;omega));clear aH a3 z a4 ae aI aJ;obtain⟨bE,aA⟩:=U (K d a8 ns);rw[aA];have ak:=Z (fun w a b=>by have:=ak.out w a b;rw[aA]at this;exact this);unfold Am Cg at ak;have bF:=Z aA;clear aA;cases bE with
 |bad a e=>
  rw[PR.LG];unfold Am;simp only[];go_enter func81,ntmps81;go_wp2_with fail;refine(aK.out _ ax.out).mono ?_;rintro e bG ⟨v,rfl,rfl,al,am⟩;have aL:=Z al;have an:=Z am;clear al am;go_wp2_with fail;refine(ak.out _ (fun k hk=>DZ (ac.out k hk) an.out.size) aL.out).mono ?_;rintro e bH ⟨rfl,ad⟩;exact AS rfl ⟨rfl,an.out.trans ad⟩
 |ok x T a9=>
  have aM:=Z (a6.out _ _ _ _ _ aj.out.1 bF.out);rw[PR.Bm];obtain⟨R,af⟩:=U (((DK (K d) (T.length+1) [x] T a9).bind fun kids L ns=>if 1<kids.length then Ff G ns.length L (ns++[{ kind:=3,kids:=kids }])else Ff G (kids.headD 0) L ns));have bI:=Z af;rw[af];clear af;go_enter func81,ntmps81;go_wp2_with fail;refine(aK.out _ ax.out).mono ?_;rintro e bG ⟨v,rfl,rfl,al,am⟩;have aL:=Z al;have an:=Z am;clear al am;go_wp2_with fail;refine(ak.out _ (fun k hk=>DZ (ac.out k hk) an.out.size) aL.out).mono ?_;rintro e bH ⟨v,rfl,rfl,a',ba⟩;have X:=Z (Fh.first a' (an.out.trans ba) x);clear a' ba;go_wp2_with fail;go_loopg [4] T.length (fun g bJ wr=> ∃(f:Nat) (kids:List Int) (T:List AY) (h:List V),((DK (K d) f kids T h).bind fun kids L ns=>if 1<kids.length then Ff G ns.length L (ns++[{ kind:=3,kids:=kids }])else Ff G (kids.headD 0) L ns)=R/\T.length<f/\T.length<=g/\T.length<=n/\kids≠[]/\kids.length+T.length<=100000/\h.length+10*T.length+5<=100000/\Fh av base w wr rb T h d bJ kids);case atStart=>exact⟨_,[x],T,a9,bI.out,Nat.lt_succ_self _,BN _,by have:=aM.out.len;have:=aj.out.2;omega,by simp,by have:=aM.out.len;have:=aj.out.2;have:=ax.out.EG;simp only[Cj];omega,by have:=aM.out.EG;have:=aj.out.2;have:=ax.out.EG;omega,X.out⟩
  case round=>
   obtain⟨f,kids,T,h,af,ad,bb,bc,aN,aO,bd,aP⟩:=hrel;have be:=Z af;have X:=Z aP;have I:=Z (BC ad (BC bb (BC bc (BC aO bd))));have bK:=Z aN;obtain⟨aB,ao,rfl,bf,_⟩:=Own.form aP.own;obtain⟨f,rfl⟩:∃bL,f=bL+1:=⟨f-1,by omega⟩;clear af ad bb bc bd aP;obtain⟨bM,ag⟩:=U (BT T F4);have bg:=Z (fun w z=>by have:=ay.out (fun k=>av k\/(Value.slice aB kids.length ao).ownBlock=some k) w T h F4 z;rw[ag]at this;exact this);cases bM with
   |true=>
    have aQ:=Z ag;have ae:=BD X.out.r.Ak aQ.out;have aR:=Ae ae.1;have ap:=Z (fun w z=>by have:=bg.out w z;rw[show A5 T F4=T.tail from Ai aQ.out]at this;exact this);unfold F4 at ap;have bN:=I.out;have M:=Z (show(AG T.tail).length+1<=T.length by omega);obtain⟨bh,aC⟩:=U (AG T.tail);have bO:=Z aC;have bP:=Z (fun w z=>by have:=a7.out (fun k=>av k\/(Value.slice aB kids.length ao).ownBlock=some k) w T.tail h z;rw[aC]at this;exact this);rw[aC]at M aR;have bQ:=Z aR.1;obtain⟨bi,aS⟩:=U (K d bh h);have bj:=Z aS;have bk:=Z (fun w a b=>by have:=bD.out (fun k=>av k\/(Value.slice aB kids.length ao).ownBlock=some k) base rb d bh h w a b (by have:=M.out;omega);rw[aS]at this;exact this);unfold Am Cg at bk;have bl:=Z (show R=((bi.bind fun y ts ns=>DK (K d) f (kids++[y]) ts ns).bind fun kids L ns=>if 1<kids.length then Ff G ns.length L (ns++[{ kind:=3,kids:=kids }])else Ff G (kids.headD 0) L ns) by rw[<-be.out,DK,Ai aQ.out,bO.out,bj.out]);clear ae aR bN aC aS ag;go_wp2_with fail;refine(ap.out _ X.out.r).mono ?_;rintro e aa ⟨v,rfl,rfl,aq,ar⟩;have N:=Z (X.out.step aq ar);clear aq ar;go_wp2_with fail;refine(bP.out _ N.out.r).mono ?_;rintro e bX ⟨v,rfl,rfl,bm,bn⟩;have aD:=Z (N.out.step bm bn);clear bm bn;go_wp2_with fail;refine(bk.out _ (aD.out.Ql ac.out) aD.out.r).mono ?_;cases bi with
    |bad a e=>
     rintro e wc ⟨rfl,aE⟩;refine AS rfl ?_;rw[bl.out];exact(⟨rfl,aD.out.fr.trans aE⟩:_/\_)
    |ok y bR bS=>
     rintro e wc ⟨v,rfl,rfl,bo,aE⟩;have bp:=Z (aD.out.step bo aE);clear bo aE;have ah:=Z (a6.out _ _ _ _ _ bQ.out bj.out);go_wp2_with (at_builtin;refine AV 3 (.int .i64 0) 1 8 underlying30 Ba rfl (.slice aB kids.length ao) kids.length (kids.map (Value.int .i64)) 0 _ 1 [.int .i64 y] rfl rfl (Own.alloc bp.out.own _) (by omega) (KR _ _ y rfl) (by unfold maxLen;omega) (by omega) ?_;intro vA wA bq br bs _;(have bT:=Z (bp.out.app _ bq br bs));clear bq br bs);go_roundg (gk-1);case rel=>exact⟨f,_,bR,bS,bl.out.symm,by have:=ah.out.len;have:=M.out;have:=I.out;omega,by have:=ah.out.len;have:=M.out;have:=I.out;omega,by have:=ah.out.len;have:=M.out;have:=I.out;omega,by simp,by have:=ah.out.len;have:=M.out;have:=I.out;simp only[BG,Cj];omega,by have:=ah.out.EG;have:=M.out;have:=I.out;omega,bT.out⟩
     case measure=>have:=ah.out.len;have:=M.out;have:=I.out;omega
   |false=>
    have ap:=Z (fun w z=>by have:=bg.out w z;rw[show A5 T F4=T from by unfold A5;rw[ag];rfl]at this;exact this);unfold F4 at ap;have bt:=Z (show R=(if 1<kids.length then Ff G h.length T (h++[{ kind:=3,kids:=kids }])else Ff G (kids.headD 0) T h) by rw[<-be.out,DK,AP (by rw[ag];decide)];rfl);clear ag;go_wp2_with fail;refine(ap.out _ X.out.r).mono ?_;rintro e aa ⟨v,rfl,rfl,aq,ar⟩;have N:=Z (X.out.step aq ar);clear aq ar;obtain⟨F,J,rfl⟩:∃F J,kids=F::J:=by
     cases kids with
     |nil=>exact Aj rfl bK.out
     |cons a b=>exact⟨a,b,rfl⟩
    obtain⟨bu,bv,bY,aT,_,_,bU,aU⟩:=N.out.own.some_ (by simp);injection aT with aT _ bw;subst aT;have bV:aa.cell? ⟨bu,bv,none⟩=some (.int .i64 F):=aU 0 (by simp);have aV:(0:Int)<(((F::J).length:Nat):Int):=(by simp only[BR];omega);have aW:=Z N.out.plain;have aF:=Z N.out.fr;by_cases ai:1<(F::J).length
    ·have ab:=Z (show R=Ff G h.length T (h++[{ kind:=3,kids:=F::J }])from bt.out.trans (Ai ai));have bx:=Z (by have:=az.out aa T h { kind:=3,kids:=F::J } (.slice none 0 0) (.slice none 0 0) (.slice none 0 0) (.slice none 0 0) (.slice (some ⟨bu,bv,none⟩) (F::J).length ao) aW.out (Nl N.out.own N.out.new ac.out 3) (by have:=I.out;omega);unfold AU sv at this;simp only[]at this;exact this);obtain⟨aX,O⟩:=U ((F::J).length);rw[O]at ai aV bx;have bz:decide ((1:Int)<(aX:Int))=true:=Au (by omega);have bZ:=Z O;simp only[O];clear O aU aO aN bw bf ai;go_wp2_with fail;refine bx.out.mono ?_;rintro e aG ⟨v,rfl,rfl,bA,bB⟩;have bC:=Z bA;have aY:=Z (aF.out.trans bB);clear bA bB bV bU aV bz;unfold Ff Ao at ab;cases G with
     |true=>
      have aZ:=Z (bC.out.grown (AF (AB aG none) (.cells #[.int .i64 ((h.length:Int))] 3)));have a0:=Z (by have:=az.out (aG.alloc (.cells #[.int .i64 ((h.length:Int))] 3)) T (h++[{ kind:=3,kids:=F::J }]) { kind:=2,kids:=[(h.length:Int)] } (.slice none 0 0) (.slice none 0 0) (.slice none 0 0) (.slice none 0 0) (.slice (some ⟨aG.heap.size,0,none⟩) 1 1) aZ.out (JG (l:=[(h.length:Int)]) (by simp) (Y.new aG 3 _) (fun k hk=>DZ (ac.out k hk) aY.out.size) 2 (by simp)) (by have:=I.out;rw[BG,Cj];omega);unfold AU sv at this;simp only[]at this;exact this);go_wp2_with fail;refine a0.out.mono ?_;rintro e bW ⟨v,rfl,rfl,au,aw⟩;have a1:=Z au;have a2:=Z ((aY.out.alloc _).trans aw);clear au aw;go_wp2_with fail;rw[ab.out];go_ret;(refine⟨_,?_,rfl,a1.out,a2.out⟩;exact FL (by simp))
     |false=>
      go_wp2_with fail;rw[ab.out];go_ret;exact⟨_,rfl,rfl,bC.out,aY.out⟩
    ·have ab:=Z (show R=Ff G F T h from bt.out.trans (AP ai));obtain⟨aX,O⟩:=U ((F::J).length);rw[O]at ai aV;have bz:decide ((1:Int)<(aX:Int))=false:=As (by omega);simp only[O];clear O aU aO aN bw bf ai;unfold Ff Ao at ab;cases G with
     |true=>
      have aZ:=Z (aW.out.grown (AF (AB aa none) (.cells #[.int .i64 (F)] 3)));have a0:=Z (by have:=az.out (aa.alloc (.cells #[.int .i64 (F)] 3)) T (h) { kind:=2,kids:=[F] } (.slice none 0 0) (.slice none 0 0) (.slice none 0 0) (.slice none 0 0) (.slice (some ⟨aa.heap.size,0,none⟩) 1 1) aZ.out (JG (l:=[F]) (by simp) (Y.new aa 3 _) (fun k hk=>DZ (ac.out k hk) aF.out.size) 2 (by simp)) (by have:=I.out;omega);unfold AU sv at this;simp only[]at this;exact this);go_wp2_with fail;refine a0.out.mono ?_;rintro e bW ⟨v,rfl,rfl,au,aw⟩;have a1:=Z au;have a2:=Z ((aF.out.alloc _).trans aw);clear au aw;go_wp2_with fail;rw[ab.out];go_ret;exact⟨_,rfl,rfl,a1.out,a2.out⟩
     |false=>
      go_wp2_with fail;rw[ab.out];go_ret;exact⟨_,rfl,rfl,aW.out,aF.out⟩
end
end Go.Proofs.YtdhfhphbkfgamaaGreat
