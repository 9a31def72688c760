/- A part. -/
import Derived.Test.YtdhfhphbkfgamaaGreatEj
set_option maxRecDepth 100000
set_option linter.all false
set_option maxHeartbeats 0
namespace Go.Proofs.YtdhfhphbkfgamaaGreat
open Go.RowKit Lx Proofs.Tryz
def K0(k:List Int×Bool)(ts:List AY)(ns:List V):PR Int:=match k.1 with
 |[x]=>if k.2=true then Ao { kind:=6,kids:=[x] } (AG ts) ns else .ok x (AG ts) ns
 |l=>Ao { kind:=6,kids:=l } (AG ts) ns
def GK(amp:Bool)(ms:List V):List V:=if amp=true then Bf [ms] { kind:=7 } else ms
theorem PD{amp:Bool}{ms:List V}(h:ms≠[]):GK amp ms≠[]:=by
 unfold GK;split
 ·intro e;have:=congrArg List.length e;rw[Cf]at this;simp at this
 ·exact h
theorem UR{amp:Bool}{ms:List V}(h:KB ms):KB (GK amp ms):=by
 unfold GK;split
 ·exact Dg (by intro q z;rw[DA]at z;subst z;exact h) (by show 1<=1000;omega) rfl
 ·exact h
theorem M9{amp:Bool}{ms:List V} :(GK amp ms).length<=ms.length+1:=by
 unfold GK;split
 ·rw[Cf];show _+0+1<=_;omega
 ·omega
theorem QC{F:DC}{f:Nat}{ps:List (List V)}{z:Bool}{J h:List AY}{ms:List V}{y:Int}(G:ms≠[])(L:KB ms)(hy:y=(ms.length:Int)-1)(W:1<=ms.length)(M:F J (AQ ps).1=.ok (Es (AQ ps).1.length y) h (E3 (AQ ps).1 ms)):
  Cd F (f+1) (AQ ps).2 z J (AQ ps).1=if(BT h C9||BT h Be||BT h GI)=true then(if BZ (AG h.tail)=true then Cd F f (AQ (ps++[GK (BT h C9) ms])).2 (z||BT h C9) (AG h.tail) (AQ (ps++[GK (BT h C9) ms])).1 else .ok ((AQ (ps++[GK (BT h C9) ms])).2,z||BT h C9) (AG h.tail) (AQ (ps++[GK (BT h C9) ms])).1)else .ok ((AQ (ps++[GK (BT h C9) ms])).2,z||BT h C9) h (AQ (ps++[GK (BT h C9) ms])).1:=by
 have hk:Es (AQ ps).1.length y=(((AQ ps).1.length+ms.length:Nat):Int)-1:=(by rw[Iq _ _ (by omega),hy];omega);rw[Cd,M,PR.Bm];cases K:BT h C9 with
 |false=>
  have I:A5 h C9=h:=(by unfold A5;rw[K];rfl);simp only[I,Bool.false_or,Bool.false_eq_true,if_false];rw[show GK false ms=ms from rfl,DU G,hk]
 |true=>
  have I:A5 h C9=h.tail:=Ai K;have N:GK true ms=ms++[{ kind:=7,kids:=[(ms.length:Int)-1] }]:=MC L G 7;have hs:E3 (AQ ps).1 (ms++[{ kind:=7,kids:=[(ms.length:Int)-1] }])=E3 (AQ ps).1 ms++[{ kind:=7,kids:=[Es (AQ ps).1.length y] }]:=by
   rw[hy];unfold E3;rw[FN,List.append_assoc];rfl
  simp only[I,Bool.true_or,if_true];rw[DU (PD G),N,hs,Fu];have O:(((AQ ps).1.length+(ms++[({ kind:=7,kids:=[(ms.length:Int)-1] } :V)]).length:Nat):Int)-1=(((AQ ps).1.length+ms.length:Nat):Int):=by
   rw[BG,Cj];omega
  rw[O]
theorem TX{ps:List (List V)}{h:Bool}{z:List AY}(hk:∀ms∈ps,KB ms)(G:∀ms∈ps,ms≠[]):K0 ((AQ ps).2,h) z (AQ ps).1=if ps.length=1/\h=false then .ok (((ps.headD []).length:Int)-1) (AG z) (ps.headD [])else .ok (AQ ps).1.length (AG z) (Bf ps { kind:=6 }):=by
 match ps with
 |[]=>rfl
 |[ms]=>
  have I:=hk ms (List.mem_singleton.2 rfl);unfold Bf;rw[Fy I (G ms (List.mem_singleton.2 rfl))];unfold K0 Ao;cases h with
  |true=>rfl
  |false=>rfl
 |a::b::c=>
  have F:=Il (a::b::c);unfold Bf;obtain⟨J,K⟩:=U (AQ (a::b::c));rw[K]at F⊢;rw[AP (by simp)];unfold K0 Ao;match L:J.2,F with
  |x::y::q,_=>rfl
theorem TE(rb:Nat)(T:List AY)(x k:Int)(w:World)(h:BU w rb T (.er x k)):Calls prog 48 #[.pointer (some ⟨rb,0,none⟩)] w fun e w'=>e=.returned (.slice none 0 0)/\BU w' rb T (.er x k)/\w.grownBy w' (some rb):=by
 have z:=Z (DM rb T (.er x k) w h);unfold Qu B9 at z;simp only[]at z;clear h;go_enter func48,ntmps48;go_wp2_with fail;refine z.out.mono ?_;rintro e I ⟨rfl,F,G⟩;have J:=Z F;have K:=Z G;obtain⟨L,i,d,h,hk⟩:=F;obtain⟨M,N,O,c3,c4⟩:=h.cells;have lb:=h.lb;have q:(k==0)=false:=Bd hk;have W:(k !=0)=true:=JY hk;clear h hk G;go_wp2_with fail;go_loopg [3,4,5,6,7,8,9] 0 (fun g X aa ab ac ad ae af wr=>wr=I);case atStart=>rfl
 case round=>
  subst hrel;go_wp2_with fail;go_ret;exact⟨rfl,J.out,K.out⟩
theorem SV(n:Nat)(O:Eg)(bO:∀d,Ki 3 (O d))(bP:∀d,Lk (O d))(bQ:Sa TG 70 O n):Sa Lm 48 (fun d=>Gm (O d)) n:=by
 intro rb T d ts w z aS;have cI:=Z (fun F ts J ad=>bQ rb T d ts F J ad);have cJ:=Z (bO d);have bR:=Z (bP d);have a8:=Z (fun F aj s (J:BU F rb T aj)=>FE rb T aj s F J);have aH:=Z (fun F ts (J:BU F rb T (.ok ts d))=>DM rb T (.ok ts d) F J);have a9:=Z (fun F ts (J:BU F rb T (.ok ts d))=>KG rb T (.ok ts d) F J);have bS:=Z (fun ps n cK F (J:w.heap.size<=F.heap.size) cL aS hk cM cN ad=>F3 (low w) ps n cK (.slice none 0 0) (.slice none 0 0) (.slice none 0 0) (.slice none 0 0) F (fun k hk=>DZ hk J) cL aS hk cM cN ad);unfold Qb at a8;unfold Qb GR at a9;unfold Qu B9 at aH;simp only[]at aH a9;have bT:=Z z.Ak;have bU:=Z z.lb;have cO:=Z aS;have a':=Z z;show Calls prog 48 #[.pointer (some ⟨rb,0,none⟩)] w (GU (F2 w) Lm rb T d w (Gm (O d) ts []));obtain⟨R,M⟩:=U (Gm (O d) ts []);rw[M];have cP:=Z (show(Cd (O d) (ts.length+1) (AQ []).2 false (AG ts) (AQ []).1).bind K0=R by
  rw[<-M];rfl)
 have aI:=Z (Ae z.Ak.1);have cQ:=Z (aH.out w ts z);clear M z aS bQ bO bP;go_enter func48,ntmps48;go_wp2_with fail;refine cQ.out.mono ?_;rintro e dC ⟨rfl,N,bV⟩;have cR:=Z N;have cS:=Z bV;clear N bV;go_upto_block 0 with(fail);go_cut [3,4] (fun ak aJ af=> ∃aj:DS,(∃x y bW,ak=.slice x y bW)/\BU af rb T aj/\w.grownBy af (some rb)/\((∃K ps G,aj=.ok K d/\aJ=.bool G/\R=K0 ((AQ ps).2,G) K (AQ ps).1/\KU w af rb T (.ok K d) ak ps/\ps≠[]/\(∀ms∈ps,ms≠[])/\BP ps<=10000/\ps.length<=600)\/(∃a k,aj=.er a k/\R=.bad a k)));case rest=>
  obtain⟨aj,⟨x,y,bW,bX⟩,ba,ao,cT⟩:=hcut;have a':=Z ba;have cU:=Z ao;rcases cT with⟨K,ps,G,rfl,rfl,M,X,bb,ap,bY,cV⟩|⟨a,k,rfl,M⟩
  ·rw[TX X.kb ap]at M;have ag:=Z M;have ae:=Z X;have bZ:=Z (BC bb ap);have bc:=Z bY;obtain⟨bd,be,bf⟩:=X.form;subst bf;clear bX;obtain⟨bg,a,b0,z,aq,ar⟩:=ba;obtain⟨al,am,an,c3,c4⟩:=z.cells;have lb:=z.lb;have cW:=Z (aH.out wc K a'.out);have aT:0<ps.length:=List.length_pos_iff.2 bb;clear z aq ar M X bb ap bY ao;go_wp2_with fail;refine cW.out.mono ?_;rintro e dD ⟨rfl,au,b1⟩;have ac:=Z (ae.out.step b1 au);clear au b1 al am an c3 c4 lb;by_cases aU:ps.length=1/\G=false
   ·obtain⟨b2,rfl⟩:=aU;obtain⟨dE,dF,dG,dH,dI,bh,dJ,u0,b3⟩:=ac.out.parts.at_ 0 aT;injection bh with bh _ cX;subst bh cX;rw[Nat.add_zero]at u0;have dK:(0:Int)<(ps.length:Int):=(by omega);have ah:((ps.length:Int)==1)=true:=(by rw[DQ];omega);have bi:=Z b3;have b4:=Z (show ps.headD []=ps[0] by cases ps with|nil=>simp at aT|cons p ps=>rfl);have b5:=Z (ac.out.kb _ (Cp aT));have b6:=Z (show ps[0].length<=10000 by have:=Js ps 0 aT;have:=bc.out;omega);have bj:=Z (ag.out.trans (Ai ⟨b2,rfl⟩));obtain⟨dL,b7⟩:=U (ps[0]);rw[b7]at u0 bi b4 b5 b6;clear b3 b7 b2;go_wp2_with fail;rw[bj.out,b4.out];go_ret;exact⟨_,rfl,⟨bi.out.1,b5.out,by have:=b6.out;omega,bi.out.2⟩,ac.out.st,ac.out.gr⟩
   ·have bj:=Z (ag.out.trans (AP aU));have bk:=Z (bS.out ps { kind:=6 } _ _ ac.out.gr.size ac.out.parts.S (Dt 6) rfl ac.out.kb (by have:=bc.out;omega) (by omega));unfold Fo AU sv at bk;simp only[]at bk;have cY:=Z (Dg (ps:=ps) (n:= { kind:=6 }) ac.out.kb (by omega) rfl);have b8:∀(aV:Prop),(((ps.length:Int)==1)=false->aV)->(((ps.length:Int)==1)=true->G=true->aV)->aV:=fun aV cZ c0=>by
     by_cases N:ps.length=1
     ·exact c0 (by rw[DQ];omega) (by cases G with|true=>rfl|false=>exact Aj ⟨N,rfl⟩ aU)
     ·exact cZ (by rw[A4];omega)
    clear aU;refine b8 _ (fun ah=>?_) (fun ah aw=>?_);all_goals(
     clear b8;try subst aw
     go_wp2_with fail;refine bk.out.mono ?_;rintro e aW ⟨v,rfl,bl,b9,aa⟩;obtain⟨c1,c2,rfl,_⟩:=bl.form;have ax:=Z bl;have bm:=Z (fun g ay=>E0 ac.out.gr.size (b9 g ay));have b':=Z (ac.out.grown aa);clear bl b9 aa;go_wp2_with fail;rw[bj.out];go_ret;exact⟨_,rfl,⟨ax.out,cY.out,by rw[Cf];have:=bc.out;omega,bm.out⟩,b'.out.st,b'.out.gr⟩)
  ·have aX:=Z M;subst bX;obtain⟨bg,i,dM,z,ca⟩:=ba;obtain⟨al,am,an,c3,c4⟩:=z.cells;have lb:=z.lb;have dN:(k !=0)=true:=JY ca;clear z ca M ao;go_wp2_with fail;rw[aX.out];go_ret;exact⟨_,rfl,rfl,a'.out,cU.out⟩
 go_wp2_with fail;go_loopg [3,4,5,6,7,8,9] (ts.length+1) (fun g ak aJ cb dO dP dQ dR wr=> ∃(f:Nat) (K:List AY) (ps:List (List V)) (G:Bool),aJ=.bool G/\(Cd (O d) f (AQ ps).2 G K (AQ ps).1).bind K0=R/\K.length<f/\K.length<g/\K.length<=ts.length/\KU w wr rb T (.ok K d) ak ps/\(∀ms∈ps,ms≠[])/\BP ps+10*K.length<=5000/\ps.length+K.length<=600);case atStart=>
  refine⟨ts.length+1,AG ts,[],false,rfl,cP.out,by have:=aI.out.2;omega,by have:=aI.out.2;omega,aI.out.2,KU.nil cR.out cS.out bU.out,fun m az=>(by cases az),?_,?_⟩
  ·have:=aI.out.2;have:=bT.out.2.2.2.1;show 0+_<=_;omega
  ·have:=aI.out.2;have:=bT.out.2.2.2.1;simp only[CU];omega
 case round=>
  obtain⟨f,K,ps,G,rfl,M,cc,ay,cd,X,ap,ce,cf⟩:=hrel;have aX:=Z M;have ae:=Z X;have bZ:=Z ap;have aK:=Z (BC cc (BC ay (BC cd (BC ce cf))));have c5:=Z X.st.Ak.1;obtain⟨bd,be,bf⟩:=X.form;subst bf;obtain⟨f,rfl⟩:∃c6,f=c6+1:=⟨f-1,by omega⟩;have cg:=Z (cI.out wr K X.st (by have:=cO.out;omega));obtain⟨c7,bn⟩:=U (O d K []);rw[bn]at cg;have bo:=Z bn;obtain⟨bg,a,b0,z,aq,ar⟩:=X.st;obtain⟨al,am,an,c3,c4⟩:=z.cells;have lb:=z.lb;have cV:ps.length<=600:=(by omega);clear z aq ar bn M cc ay cd X ap ce cf;go_wp2_with fail;refine cg.out.mono ?_;cases c7 with
  |bad aL aM=>
   rintro e bp ⟨v,rfl,⟨bq,br,ak,rfl⟩,aA,aB⟩;obtain⟨bs,ah,aw⟩:=ae.out.parts.M6 aB ae.out.st.AO;have aY:=Z ah;have ch:=Z aA;have c8:=Z (AJ ae.out.gr aB);have c9:=Z (show R=.bad aL aM by rw[<-aX.out,Cd,JF bR.out,bo.out];rfl);have ab:=Z (fun F s (J:BU F rb T (.er aL aM))=>a8.out F (.er aL aM) s J);unfold Je sv at ab;simp only[]at ab;clear aA aB ah aw al am an c3 c4 lb;go_wp2_with fail;refine(ab.out bp [38] ch.out).mono ?_;rintro e aW ⟨rfl,aa⟩;have c':=Z (ch.out.grown aa);have da:=Z (AJ c8.out (Bt aa));have db:=Z (Bl aa aY.out);clear aa;go_wp2_with (at_builtin;refine AV 22 (.slice none 0 0) 1 24 underlying110 GN rfl (.slice bd ps.length be) ps.length bs 0 _ 1 [.slice bq br ak] rfl rfl (Own.alloc db.out _) (by omega) (KI _ _ bq br ak rfl) (by unfold maxLen;omega) (by omega) ?_;intro dc bt aC aD aZ _;(have ci:=Z ((c'.out.grown (AF (AB _ none) _)).Bo aD (fun k e=>by have:=ae.out.new k e;have:=bU.out;omega)));(have dd:=Z (F7 da.out _ aD ae.out.new));(obtain⟨de,df,rfl,_,_⟩:=Own.form aC);clear aC aD aZ);refine(ab.out bt [59] ci.out).mono ?_;rintro e cj ⟨rfl,aE⟩;have ck:=Z (ci.out.grown aE);have bu:=Z (AJ dd.out (Bt aE));clear aE;go_wp2_with fail;refine(ab.out cj [10] ck.out).mono ?_;rintro e cl ⟨rfl,aF⟩;have dg:=Z (ck.out.grown aF);have dh:=Z (AJ bu.out (Bt aF));clear aF;go_wp2_with fail;go_meet;exact⟨.er aL aM,⟨_,_,_,rfl⟩,dg.out,dh.out,.inr ⟨aL,aM,rfl,c9.out⟩⟩
  |ok dS h W=>
   rintro e bp ⟨v,rfl,a0,aA,aB⟩;obtain⟨bq,br,rfl⟩:=a0.form;have ad:=cJ.out _ _ _ _ _ c5.out bo.out;obtain⟨bv,bw,bx,cm⟩:=ad.ne;have cn:=Z ad.Ak;have a1:=Z (BC bv (BC bw (BC bx (BC cm ad.len))));have co:=Z (ae.out.step aB aA);have di:=Z (a0.low ae.out.gr.size);have aN:=Z (show R=((if(BT h C9||BT h Be||BT h GI)=true then(if BZ (AG h.tail)=true then Cd (O d) f (AQ (ps++[GK (BT h C9) W])).2 (G||BT h C9) (AG h.tail) (AQ (ps++[GK (BT h C9) W])).1 else .ok ((AQ (ps++[GK (BT h C9) W])).2,G||BT h C9) (AG h.tail) (AQ (ps++[GK (BT h C9) W])).1)else .ok ((AQ (ps++[GK (BT h C9) W])).2,G||BT h C9) h (AQ (ps++[GK (BT h C9) W])).1:PR (List Int×Bool))).bind K0 by
    rw[<-aX.out,QC bv a0.2.1 bw bx (by rw[JF bR.out,bo.out];rfl)])
   have bz:=Z aA.Ak.2.1;have bA:=bz.out.RF Io.2.2.1;have bB:=bz.out.RF Io.2.2.2.1;have bC:=bz.out.RF Io.2.2.2.2.1;obtain⟨L,a2⟩:=U (Dx h C9);obtain⟨bD,a3⟩:=U (Dx h Be);obtain⟨cp,a4⟩:=U (Dx h GI);have ab:=Z (fun F s (J:BU F rb T (.ok h d))=>a8.out F (.ok h d) s J);unfold Je sv at ab;simp only[]at ab;have cq:=Z (fun F J=>by have:=ab.out F C9 J;rw[a2]at this;exact this);have cr:=Z (fun F J=>by have:=ab.out F Be J;rw[a3]at this;exact this);have cs:=Z (fun F J=>by have:=ab.out F GI J;rw[a4]at this;exact this);unfold C9 at cq;unfold Be at cr;unfold GI at cs;rw[bA.trans a2,bB.trans a3,bC.trans a4]at aN;have dj:=Z (BC (bA.trans a2) (BC (bB.trans a3) (bC.trans a4)));have bE:=Z (show BP ps+(W.length+1)+10*h.length<=5000/\ps.length+1+h.length<=600 by have:=aK.out;have:=ad.len;omega);clear aA aB ad bv bw bx cm a0 bA bB bC a2 a3 a4 al am an c3 c4 lb;go_wp2_with fail;refine(cq.out bp co.out.st).mono ?_;rintro e aW ⟨rfl,aa⟩;have bF:=Z (co.out.grown aa);have ax:=Z (di.out.grown aa);clear aa;go_upto_if 21 with(fail);go_cut [4,5] (fun aJ cb af=>aJ=.bool (G||L)/\F2 w af (GK L W) cb/\aW.grownBy af none);case first=>
    cases L with
    |true=>
     have bG:=Z (bS.out [W] { kind:=7 } _ _ (by rw[BW];have:=bF.out.gr.size;omega) (Mz ax.out.1) (Dt 7) rfl (by intro q ct;rw[DA]at ct;subst ct;exact ax.out.2.1) (by show _+0<=_;have:=bE.out;omega) (by show 1<=1000;omega));unfold Fo AU sv at bG;simp only[]at bG;go_wp2_with fail;refine bG.out.mono ?_;rintro e cj ⟨v,rfl,bH,cu,aE⟩;obtain⟨c1,c2,rfl,_⟩:=bH.form;have dk:=Z bH;have bm:=Z (fun g ay=>E0 (E0 bF.out.gr.size (by rw[BW];omega)) (cu g ay));have bu:=Z (AI (AF (AB aW none) _) aE);clear bH cu aE;go_wp2_with fail;go_meet;exact⟨by simp,⟨dk.out,UR ax.out.2.1,by have:=M9 (amp:=true) (ms:=W);have:=bE.out;omega,bm.out⟩,bu.out⟩
    |false=>
     go_wp2_with fail;go_meet;exact⟨by simp,ax.out,AB _ _⟩
   case rest=>
    obtain⟨rfl,bI,cv⟩:=hcut;obtain⟨cw,cx,rfl⟩:=bI.form;have a5:=Z bI;have cy:=Z (bF.out.grown cv);clear bI cv;obtain⟨I,aO⟩:=U (GK L W);have dl:=Z (show I≠[] by rw[<-aO];exact PD a1.out.1);have dm:=Z (show I.length<=W.length+1 by rw[<-aO];exact M9);rw[aO]at a5 aN;simp only[aO];obtain⟨bs,ah,aw⟩:=cy.out.parts;have aY:=Z ah;have dn:=Z aw;clear ah aw aO;go_wp2_with (at_builtin;refine AV 22 (.slice none 0 0) 1 24 underlying110 GN rfl (.slice bd ps.length be) ps.length bs 0 _ 1 [.slice cw I.length cx] rfl rfl (Own.alloc aY.out _) (by omega) (KI _ _ cw I.length cx rfl) (by unfold maxLen;omega) (by omega) ?_;intro dc bt aC aD aZ _;(have cz:=Z (KU.app cy.out aY.out dn.out _ a5.out.1 a5.out.2.1 a5.out.2.2.2 aC aD aZ));(obtain⟨de,df,rfl,_,_⟩:=Own.form aC);clear aC aD aZ);refine(cr.out bt cz.out.st).mono ?_;rintro e cl ⟨rfl,aF⟩;have cA:=Z (cz.out.grown aF);clear aF;go_wp2_with fail;refine(cs.out cl cA.out.st).mono ?_;rintro e dp ⟨rfl,cB⟩;have aP:=Z (cA.out.grown cB);clear cB;have bJ:=Z (show∀m∈ps++[I],m≠[]from fun m az=>by
     rw[ID,DA]at az;rcases az with az|rfl
     ·exact bZ.out m az
     ·exact dl.out)
    have aG:=Z (show BP (ps++[I])+10*h.length<=5000/\(ps++[I]).length+h.length<=600 by
     rw[Eb,BG,Cj];have:=bE.out;have:=dm.out;omega)
    go_upto_region 13 with(fail);go_cut [43] (fun dq af=>dq=.bool (!(L||bD||cp))/\af=dp);case first=>
     cases L with
     |true=>
      go_wp2_with fail;go_meet;exact⟨by simp,rfl⟩
     |false=>
      cases bD with
      |true=>
       go_wp2_with fail;go_meet;exact⟨by simp,rfl⟩
      |false=>
       go_wp2_with fail;go_meet;exact⟨by simp,rfl⟩
    case rest=>
     obtain⟨rfl,dr⟩:=hcut;subst dr;obtain⟨ds,a6⟩:=U ((L||bD||cp));have dt:=Z a6;rw[a6]at aN;simp only[a6];clear a6;cases ds with
     |false=>
      have ag:=Z (show R=K0 ((AQ (ps++[I])).2,G||L) h (AQ (ps++[I])).1 from aN.out);go_wp2_with fail;go_meet;exact⟨.ok h d,⟨_,_,_,rfl⟩,aP.out.st,aP.out.gr,.inl ⟨h,ps++[I],G||L,rfl,rfl,ag.out,aP.out,by simp,bJ.out,by have:=aG.out.1;omega,by have:=aG.out.2;omega⟩⟩
     |true=>
      obtain⟨t,r,ai⟩:=cn.out.ne;have bK:t.k≠4:=by
       have N:=dt.out;have au:=dj.out;rw[GX,GX]at N;rcases N with(N|N)|N
       ·exact(GL (ai▸(au.1.trans N))).1
       ·exact(GL (ai▸(au.2.1.trans N))).1
       ·exact(GL (ai▸(au.2.2.trans N))).1
      have cC:h.tail=r:=(by rw[ai];rfl);have bL:=Z (show R=((if BZ (AG r)=true then Cd (O d) f (AQ (ps++[I])).2 (G||L) (AG r) (AQ (ps++[I])).1 else .ok ((AQ (ps++[I])).2,G||L) (AG r) (AQ (ps++[I])).1:PR (List Int×Bool))).bind K0 by rw[aN.out,Ai rfl,cC]);have ao:Good r:=(ai▸cn.out:Good (t::r)).tail bK;have aQ:=Z (Ae ao);have aR:=Z (show r.length+1=h.length by rw[ai];rfl);obtain⟨bg,a,b0,z,aq,ar⟩:=aP.out.st;obtain⟨al,am,an,c3,c4⟩:=z.cells;have lb:=z.lb;have du:=Y.frozen z.BF 1;have dv:(a:Int)<=500:=(by have:=z.lt;have:=z.tg.len;omega);have dw:=Z (BU.next z aq ar ai bK);clear z aq ar ai bK cC ao;go_upto_region 15 with(fail);have cD:=AN (AB wc (some rb)) (p:=⟨rb,1,none⟩) (.inl rfl) (.int .i64 ((a:Int)+1));have bM:=Z (aP.out.step cD dw.out);generalize wc.setCell ⟨rb,1,none⟩ (.int .i64 ((a:Int)+1))=dx at bM⊢;clear cD al am an c3 c4 lb du dv;have dy:=Z (aH.out dx r bM.out.st);go_wp2_with fail;refine dy.out.mono ?_;rintro e dz ⟨rfl,bN,cE⟩;have dA:=Z (bM.out.step cE bN);have cF:=Z (a9.out dz (AG r) bN);clear bN cE;obtain⟨dB,cG⟩:=U (BZ (AG r));rw[cG]at cF bL;clear cG;go_wp2_with fail;refine cF.out.mono ?_;rintro e dT ⟨rfl,cH⟩;have a7:=Z (dA.out.grown cH);clear cH;cases dB with
      |false=>
       have ag:=Z (show R=K0 ((AQ (ps++[I])).2,G||L) (AG r) (AQ (ps++[I])).1 from bL.out);go_wp2_with fail;go_meet;exact⟨.ok (AG r) d,⟨_,_,_,rfl⟩,a7.out.st,a7.out.gr,.inl ⟨AG r,ps++[I],G||L,rfl,rfl,ag.out,a7.out,by simp,bJ.out,by have:=aG.out.1;omega,by have:=aG.out.2;omega⟩⟩
      |true=>
       have ag:=Z (show(Cd (O d) f (AQ (ps++[I])).2 (G||L) (AG r) (AQ (ps++[I])).1).bind K0=R from bL.out.symm);go_wp2_with fail;go_roundg (gk-1);case rel=>exact⟨f,AG r,ps++[I],G||L,rfl,ag.out,by have:=aQ.out.2;have:=aR.out;have:=a1.out.2.2.2.2;have:=aK.out;omega,by have:=aQ.out.2;have:=aR.out;have:=a1.out.2.2.2.2;have:=aK.out;omega,by have:=aQ.out.2;have:=aR.out;have:=a1.out.2.2.2.2;have:=aK.out;omega,a7.out,bJ.out,by have:=aQ.out.2;have:=aR.out;have:=aG.out.1;omega,by have:=aQ.out.2;have:=aR.out;have:=aG.out.2;omega⟩
       case measure=>have:=aK.out;omega
end Go.Proofs.YtdhfhphbkfgamaaGreat
