/- PrintTells: a part of its proof. -/
import Derived.Test.YtdhfhphbkfgamaaGreatEj
set_option maxRecDepth 100000
set_option maxHeartbeats 64000000
namespace Go.Proofs.YtdhfhphbkfgamaaGreat
open Go.RowKit Lx
def KQ (k:List Int×Bool) (ts:List AX) (ns:List V):PR Int:=match k.1 with
 |[x]=>if k.2=true then An { kind:=6,kids:=[x] } (AG ts) ns else .ok x (AG ts) ns
 |l=>An { kind:=6,kids:=l } (AG ts) ns
def Fw (amp:Bool) (ms:List V):List V:=if amp=true then Bc [ms] { kind:=7 } else ms
theorem Ot {amp:Bool} {ms:List V} (h:ms≠[]):Fw amp ms≠[]:=by
 unfold Fw;split
 ·intro e;have:=congrArg List.length e;rw[Cb]at this;simp at this
 ·exact h
theorem Sp {amp:Bool} {ms:List V} (h:KB ms):KB (Fw amp ms):=by
 unfold Fw;split
 ·exact DU (by intro q z;rw[List.mem_singleton]at z;subst z;exact h) (by show 1≤1000;omega) rfl
 ·exact h
theorem Mj {amp:Bool} {ms:List V} :(Fw amp ms).length≤ms.length+1:=by
 unfold Fw;split
 ·rw[Cb];show _+0+1≤_;omega
 ·omega
theorem Pt {F:C4} {f:Nat} {ps:List (List V)} {z:Bool} {J h:List AX} {ms:List V} {y:Int} (G:ms≠[]) (L:KB ms) (hy:y=(ms.length:Int)-1) (W:1≤ms.length) (M:F J (AP ps).1=.ok (EW (AP ps).1.length y) h (Ek (AP ps).1 ms)):
  CY F (f+1) (AP ps).2 z J (AP ps).1=if(BR h Cw||BR h Bb||BR h Fu)=true then(if BX (AG h.tail)=true then CY F f (AP (ps++[Fw (BR h Cw) ms])).2 (z||BR h Cw) (AG h.tail) (AP (ps++[Fw (BR h Cw) ms])).1 else .ok ((AP (ps++[Fw (BR h Cw) ms])).2,z||BR h Cw) (AG h.tail) (AP (ps++[Fw (BR h Cw) ms])).1)else .ok ((AP (ps++[Fw (BR h Cw) ms])).2,z||BR h Cw) h (AP (ps++[Fw (BR h Cw) ms])).1:=by
 have hk:EW (AP ps).1.length y=(((AP ps).1.length+ms.length:Nat):Int)-1:=(by rw[IN _ _ (by omega),hy];omega);rw[CY,M,PR.Bj];cases K:BR h Cw with
 |false=>
  have I:A3 h Cw=h:=(by unfold A3;rw[K];rfl);simp only[I,Bool.false_or,Bool.false_eq_true,if_false];rw[show Fw false ms=ms from rfl,DG G,hk]
 |true=>
  have I:A3 h Cw=h.tail:=Ah K;have N:Fw true ms=ms++[{ kind:=7,kids:=[(ms.length:Int)-1] }]:=LX L G 7;have hs:Ek (AP ps).1 (ms++[{ kind:=7,kids:=[(ms.length:Int)-1] }])=Ek (AP ps).1 ms++[{ kind:=7,kids:=[EW (AP ps).1.length y] }]:=by
   rw[hy];unfold Ek;rw[List.map_append,List.append_assoc];rfl
  simp only[I,Bool.true_or,if_true];rw[DG (Ot G),N,hs,FW];have O:(((AP ps).1.length+(ms++[({ kind:=7,kids:=[(ms.length:Int)-1] } :V)]).length:Nat):Int)-1=(((AP ps).1.length+ms.length:Nat):Int):=by
   rw[BE,Cd];omega
  rw[O]
theorem TQ {ps:List (List V)} {h:Bool} {z:List AX} (hk: ∀ms∈ps,KB ms) (I: ∀ms∈ps,ms≠[]):KQ ((AP ps).2,h) z (AP ps).1=if ps.length=1∧h=false then .ok (((ps.headD []).length:Int)-1) (AG z) (ps.headD [])else .ok (AP ps).1.length (AG z) (Bc ps { kind:=6 }):=by
 match ps with
 |[]=>rfl
 |[ms]=>
  have J:=hk ms (List.mem_singleton.2 rfl);unfold Bc;rw[Fc J (I ms (List.mem_singleton.2 rfl))];unfold KQ An;cases h with
  |true=>rfl
  |false=>rfl
 |a::b::c=>
  have G:=IK (a::b::c);unfold Bc;obtain⟨F,K⟩: ∃F,AP (a::b::c)=F:=⟨_,rfl⟩;rw[K]at G⊢;rw[U (by simp)];unfold KQ An;match L:F.2,G with
  |x::y::q,_=>rfl
theorem Ql (rb:Nat) (T:List AX) (x k:Int) (w:World) (h:BS w rb T (.er x k)):Calls Tryz.prog 48 #[.pointer (some ⟨rb,0,none⟩)] w fun e w'=>e=.returned (.slice none 0 0)∧BS w' rb T (.er x k)∧w.grownBy w' (some rb):=by
 have z:=Z (C9 rb T (.er x k) w h);unfold Qu B3 at z;simp only[]at z;clear h;go_enter Tryz.func48,Tryz.ntmps48;go_wp2_with fail;refine z.out.mono ?_;rintro e I ⟨rfl,F,G⟩;have J:=Z F;have K:=Z G;obtain⟨L,i,d,h,hk⟩:=F;obtain⟨M,N,O,c3,c4⟩:=h.cells;have lb:=h.lb;have q:(k==0)=false:=Ba hk;have W:(k !=0)=true:=JG hk;clear h hk G;go_wp2_with fail;go_loopg [3,4,5,6,7,8,9] 0 (fun g X aa ab ac ad ae af wr=>wr=I);case atStart=>rfl
 case round=>
  subst hrel;go_wp2_with fail;go_ret;exact⟨rfl,J.out,K.out⟩
theorem Z0m {P:Prop} (h:P:=by
 go_wp2_with fail;go_meet;exact⟨by simp,rfl⟩):P:=h
theorem SN (n:Nat) (O:EO) (bO: ∀d,Ju 3 (O d)) (bP: ∀d,K0 (O d)) (bQ:Qw Sf 70 O n):Qw LJ 48 (fun d=>GM (O d)) n:=by
 intro rb T d ts w z aS;have cI:=Z (fun F ts J ad=>bQ rb T d ts F J ad);have cJ:=Z (bO d);have bR:=Z (bP d);have a8:=Z (fun F aj s (J:BS F rb T aj)=>Ey rb T aj s F J);have aH:=Z (fun F ts (J:BS F rb T (.ok ts d))=>C9 rb T (.ok ts d) F J);have a9:=Z (fun F ts (J:BS F rb T (.ok ts d))=>Jm rb T (.ok ts d) F J);have bS:=Z (fun ps n cK F (J:w.heap.size≤F.heap.size) cL aS hk cM cN ad=>Fg (low w) ps n cK (.slice none 0 0) (.slice none 0 0) (.slice none 0 0) (.slice none 0 0) F (fun k hk=>DP hk J) cL aS hk cM cN ad);unfold Qb at a8;unfold Qb F4 at a9;unfold Qu B3 at aH;simp only[]at aH a9;have bT:=Z z.Aj;have bU:=Z z.lb;have cO:=Z aS;have a':=Z z;show Calls Tryz.prog 48 #[.pointer (some ⟨rb,0,none⟩)] w (F0 (Fe w) LJ rb T d w (GM (O d) ts []));obtain⟨R,M⟩: ∃R,GM (O d) ts []=R:=⟨_,rfl⟩;rw[M];have cP:=Z (show(CY (O d) (ts.length+1) (AP []).2 false (AG ts) (AP []).1).bind KQ=R by
  rw[←M];rfl)
 have aI:=Z (Ad z.Aj.1);have cQ:=Z (aH.out w ts z);clear M z aS bQ bO bP;go_enter Tryz.func48,Tryz.ntmps48;go_wp2_with fail;refine cQ.out.mono ?_;rintro e dD ⟨rfl,N,bV⟩;have cR:=Z N;have cS:=Z bV;clear N bV;go_upto_block 0 with(fail);go_cut [3,4] (fun ak aJ af=> ∃aj:DS,(∃x y bW,ak=.slice x y bW)∧BS af rb T aj∧w.grownBy af (some rb)∧((∃K ps G,aj=.ok K d∧aJ=.bool G∧R=KQ ((AP ps).2,G) K (AP ps).1∧Jr w af rb T (.ok K d) ak ps∧ps≠[]∧(∀ms∈ps,ms≠[])∧BO ps≤10000∧ps.length≤600)∨(∃a k,aj=.er a k∧R=.bad a k)));case rest=>
  obtain⟨aj,⟨x,y,bW,bX⟩,ba,ao,cT⟩:=hcut;have a':=Z ba;have cU:=Z ao;rcases cT with⟨K,ps,G,rfl,rfl,M,X,bb,ap,bY,cV⟩|⟨a,k,rfl,M⟩
  ·rw[TQ X.kb ap]at M;have ag:=Z M;have ae:=Z X;have bZ:=Z (A8 bb ap);have bc:=Z bY;obtain⟨bd,be,bf⟩:=X.form;subst bf;clear bX;obtain⟨bg,a,b0,z,aq,ar⟩:=ba;obtain⟨al,am,an,c3,c4⟩:=z.cells;have lb:=z.lb;have cW:=Z (aH.out wc K a'.out);have aT:0<ps.length:=List.length_pos_iff.2 bb;clear z aq ar M X bb ap bY ao;go_wp2_with fail;refine cW.out.mono ?_;rintro e dE ⟨rfl,au,b1⟩;have ac:=Z (ae.out.step b1 au);clear au b1 al am an c3 c4 lb;by_cases aU:ps.length=1∧G=false
   ·obtain⟨b2,rfl⟩:=aU;obtain⟨dF,dG,dH,dI,dJ,bh,dK,u0,b3⟩:=ac.out.parts.at_ 0 aT;injection bh with bh _ cX;subst bh cX;rw[Nat.add_zero]at u0;have dL:(0:Int)<(ps.length:Int):=(by omega);have ah:((ps.length:Int)==1)=true:=(by rw[beq_iff_eq];omega);have bi:=Z b3;have b4:=Z (show ps.headD []=ps[0] by cases ps with|nil=>simp at aT|cons p ps=>rfl);have b5:=Z (ac.out.kb _ (List.getElem_mem aT));have b6:=Z (show ps[0].length≤10000 by have:=JS ps 0 aT;have:=bc.out;omega);have bj:=Z (ag.out.trans (Ah ⟨b2,rfl⟩));obtain⟨dM,b7⟩: ∃m,ps[0]=m:=⟨_,rfl⟩;rw[b7]at u0 bi b4 b5 b6;clear b3 b7 b2;go_wp2_with fail;rw[bj.out,b4.out];go_ret;exact⟨_,rfl,⟨bi.out.1,b5.out,by have:=b6.out;omega,bi.out.2⟩,ac.out.st,ac.out.gr⟩
   ·have bj:=Z (ag.out.trans (U aU));have bk:=Z (bS.out ps { kind:=6 } _ _ ac.out.gr.size ac.out.parts.S (Dm 6) rfl ac.out.kb (by have:=bc.out;omega) (by omega));unfold FO AT sv at bk;simp only[]at bk;have cY:=Z (DU (ps:=ps) (n:= { kind:=6 }) ac.out.kb (by omega) rfl);have b8: ∀(aV:Prop),(((ps.length:Int)==1)=false→aV)→(((ps.length:Int)==1)=true→G=true→aV)→aV:=fun aV cZ c0=>by
     by_cases N:ps.length=1
     ·exact c0 (by rw[beq_iff_eq];omega) (by cases G with|true=>rfl|false=>exact Ai ⟨N,rfl⟩ aU)
     ·exact cZ (by rw[beq_eq_false_iff_ne];omega)
    clear aU;refine b8 _ (fun ah=>?_) (fun ah aw=>?_);all_goals(
     clear b8;try subst aw
     go_wp2_with fail;refine bk.out.mono ?_;rintro e aW ⟨v,rfl,bl,b9,aa⟩;obtain⟨c1,c2,rfl,_⟩:=bl.form;have ax:=Z bl;have bm:=Z (fun g ay=>Ef ac.out.gr.size (b9 g ay));have b':=Z (ac.out.grown aa);clear bl b9 aa;go_wp2_with fail;rw[bj.out];go_ret;exact⟨_,rfl,⟨ax.out,cY.out,by rw[Cb];have:=bc.out;omega,bm.out⟩,b'.out.st,b'.out.gr⟩)
  ·have aX:=Z M;subst bX;obtain⟨bg,i,dN,z,ca⟩:=ba;obtain⟨al,am,an,c3,c4⟩:=z.cells;have lb:=z.lb;have dO:(k !=0)=true:=JG ca;clear z ca M ao;go_wp2_with fail;rw[aX.out];go_ret;exact⟨_,rfl,rfl,a'.out,cU.out⟩
 go_wp2_with fail;go_loopg [3,4,5,6,7,8,9] (ts.length+1) (fun g ak aJ cb dP dQ dR dS wr=> ∃(f:Nat) (K:List AX) (ps:List (List V)) (G:Bool),aJ=.bool G∧(CY (O d) f (AP ps).2 G K (AP ps).1).bind KQ=R∧K.length<f∧K.length<g∧K.length≤ts.length∧Jr w wr rb T (.ok K d) ak ps∧(∀ms∈ps,ms≠[])∧BO ps+10*K.length≤5000∧ps.length+K.length≤600);case atStart=>
  refine⟨ts.length+1,AG ts,[],false,rfl,cP.out,by have:=aI.out.2;omega,by have:=aI.out.2;omega,aI.out.2,Jr.nil cR.out cS.out bU.out,fun m az=>(by cases az),?_,?_⟩
  ·have:=aI.out.2;have:=bT.out.2.2.2.1;show 0+_≤_;omega
  ·have:=aI.out.2;have:=bT.out.2.2.2.1;simp only[List.length_nil];omega
 case round=>
  obtain⟨f,K,ps,G,rfl,M,cc,ay,cd,X,ap,ce,cf⟩:=hrel;have aX:=Z M;have ae:=Z X;have bZ:=Z ap;have aK:=Z (A8 cc (A8 ay (A8 cd (A8 ce cf))));have c5:=Z X.st.Aj.1;obtain⟨bd,be,bf⟩:=X.form;subst bf;obtain⟨f,rfl⟩: ∃c6,f=c6+1:=⟨f-1,by omega⟩;have cg:=Z (cI.out wr K X.st (by have:=cO.out;omega));obtain⟨c7,bn⟩: ∃P,O d K []=P:=⟨_,rfl⟩;rw[bn]at cg;have bo:=Z bn;obtain⟨bg,a,b0,z,aq,ar⟩:=X.st;obtain⟨al,am,an,c3,c4⟩:=z.cells;have lb:=z.lb;have cV:ps.length≤600:=(by omega);clear z aq ar bn M cc ay cd X ap ce cf;go_wp2_with fail;refine cg.out.mono ?_;cases c7 with
  |bad aL aM=>
   rintro e bp ⟨v,rfl,⟨bq,br,ak,rfl⟩,aA,aB⟩;obtain⟨bs,ah,aw⟩:=ae.out.parts.Mb aB ae.out.st.AN;have aY:=Z ah;have ch:=Z aA;have c8:=Z (AJ ae.out.gr aB);have c9:=Z (show R=.bad aL aM by rw[←aX.out,CY,Ik bR.out,bo.out];rfl);have ab:=Z (fun F s (J:BS F rb T (.er aL aM))=>a8.out F (.er aL aM) s J);unfold Ix sv at ab;simp only[]at ab;clear aA aB ah aw al am an c3 c4 lb;go_wp2_with fail;refine(ab.out bp [38] ch.out).mono ?_;rintro e aW ⟨rfl,aa⟩;have c':=Z (ch.out.grown aa);have da:=Z (AJ c8.out (Bp aa));have db:=Z (Bh aa aY.out);clear aa;go_wp2_with (at_builtin;refine AU 22 (.slice none 0 0) 1 24 Tryz.underlying110 F3 rfl (.slice bd ps.length be) ps.length bs 0 _ 1 [.slice bq br ak] rfl rfl (Own.alloc db.out _) (by omega) (Jl _ _ bq br ak rfl) (by unfold maxLen;omega) (by omega) ?_;intro dc bt aC aD aZ _;(have ci:=Z ((c'.out.grown (AF (AB _ none) _)).Bl aD (fun k e=>by have:=ae.out.new k e;have:=bU.out;omega)));(have dd:=Z (Fq da.out _ aD ae.out.new));(obtain⟨de,df,rfl,_,_⟩:=Own.form aC);clear aC aD aZ);refine(ab.out bt [59] ci.out).mono ?_;rintro e cj ⟨rfl,aE⟩;have ck:=Z (ci.out.grown aE);have bu:=Z (AJ dd.out (Bp aE));clear aE;go_wp2_with fail;refine(ab.out cj [10] ck.out).mono ?_;rintro e cl ⟨rfl,aF⟩;have dg:=Z (ck.out.grown aF);have dh:=Z (AJ bu.out (Bp aF));clear aF;go_wp2_with fail;go_meet;exact⟨.er aL aM,⟨_,_,_,rfl⟩,dg.out,dh.out,.inr ⟨aL,aM,rfl,c9.out⟩⟩
  |ok dT h W=>
   rintro e bp ⟨v,rfl,a0,aA,aB⟩;obtain⟨bq,br,rfl⟩:=a0.form;have ad:=cJ.out _ _ _ _ _ c5.out bo.out;obtain⟨bv,bw,bx,cm⟩:=ad.ne;have cn:=Z ad.Aj;have a1:=Z (A8 bv (A8 bw (A8 bx (A8 cm ad.len))));have co:=Z (ae.out.step aB aA);have di:=Z (a0.low ae.out.gr.size);have aN:=Z (show R=((if(BR h Cw||BR h Bb||BR h Fu)=true then(if BX (AG h.tail)=true then CY (O d) f (AP (ps++[Fw (BR h Cw) W])).2 (G||BR h Cw) (AG h.tail) (AP (ps++[Fw (BR h Cw) W])).1 else .ok ((AP (ps++[Fw (BR h Cw) W])).2,G||BR h Cw) (AG h.tail) (AP (ps++[Fw (BR h Cw) W])).1)else .ok ((AP (ps++[Fw (BR h Cw) W])).2,G||BR h Cw) h (AP (ps++[Fw (BR h Cw) W])).1:PR (List Int×Bool))).bind KQ by
    rw[←aX.out,Pt bv a0.2.1 bw bx (by rw[Ik bR.out,bo.out];rfl)])
   have bz:=Z aA.Aj.2.1;have bA:=bz.out.Qd IS.2.2.1;have bB:=bz.out.Qd IS.2.2.2.1;have bC:=bz.out.Qd IS.2.2.2.2.1;obtain⟨L,a2⟩: ∃b,Dn h Cw=b:=⟨_,rfl⟩;obtain⟨bD,a3⟩: ∃b,Dn h Bb=b:=⟨_,rfl⟩;obtain⟨cp,a4⟩: ∃b,Dn h Fu=b:=⟨_,rfl⟩;have ab:=Z (fun F s (J:BS F rb T (.ok h d))=>a8.out F (.ok h d) s J);unfold Ix sv at ab;simp only[]at ab;have cq:=Z (fun F J=>by have:=ab.out F Cw J;rw[a2]at this;exact this);have cr:=Z (fun F J=>by have:=ab.out F Bb J;rw[a3]at this;exact this);have cs:=Z (fun F J=>by have:=ab.out F Fu J;rw[a4]at this;exact this);unfold Cw at cq;unfold Bb at cr;unfold Fu at cs;rw[bA.trans a2,bB.trans a3,bC.trans a4]at aN;have dj:=Z (A8 (bA.trans a2) (A8 (bB.trans a3) (bC.trans a4)));have bE:=Z (show BO ps+(W.length+1)+10*h.length≤5000∧ps.length+1+h.length≤600 by have:=aK.out;have:=ad.len;omega);clear aA aB ad bv bw bx cm a0 bA bB bC a2 a3 a4 al am an c3 c4 lb;go_wp2_with fail;refine(cq.out bp co.out.st).mono ?_;rintro e aW ⟨rfl,aa⟩;have bF:=Z (co.out.grown aa);have ax:=Z (di.out.grown aa);clear aa;go_upto_if 21 with(fail);go_cut [4,5] (fun aJ cb af=>aJ=.bool (G||L)∧Fe w af (Fw L W) cb∧aW.grownBy af none);case first=>
    cases L with
    |true=>
     have bG:=Z (bS.out [W] { kind:=7 } _ _ (by rw[World.size_alloc];have:=bF.out.gr.size;omega) (MO ax.out.1) (Dm 7) rfl (by intro q ct;rw[List.mem_singleton]at ct;subst ct;exact ax.out.2.1) (by show _+0≤_;have:=bE.out;omega) (by show 1≤1000;omega));unfold FO AT sv at bG;simp only[]at bG;go_wp2_with fail;refine bG.out.mono ?_;rintro e cj ⟨v,rfl,bH,cu,aE⟩;obtain⟨c1,c2,rfl,_⟩:=bH.form;have dk:=Z bH;have bm:=Z (fun g ay=>Ef (Ef bF.out.gr.size (by rw[World.size_alloc];omega)) (cu g ay));have bu:=Z (AI (AF (AB aW none) _) aE);clear bH cu aE;go_wp2_with fail;go_meet;exact⟨by simp,⟨dk.out,Sp ax.out.2.1,by have:=Mj (amp:=true) (ms:=W);have:=bE.out;omega,bm.out⟩,bu.out⟩
    |false=>
     go_wp2_with fail;go_meet;exact⟨by simp,ax.out,AB _ _⟩
   case rest=>
    obtain⟨rfl,bI,cv⟩:=hcut;obtain⟨cw,cx,rfl⟩:=bI.form;have a5:=Z bI;have cy:=Z (bF.out.grown cv);clear bI cv;obtain⟨I,aO⟩: ∃dl,Fw L W=dl:=⟨_,rfl⟩;have dm:=Z (show I≠[] by rw[←aO];exact Ot a1.out.1);have dn:=Z (show I.length≤W.length+1 by rw[←aO];exact Mj);rw[aO]at a5 aN;simp only[aO];obtain⟨bs,ah,aw⟩:=cy.out.parts;have aY:=Z ah;have dp:=Z aw;clear ah aw aO;go_wp2_with (at_builtin;refine AU 22 (.slice none 0 0) 1 24 Tryz.underlying110 F3 rfl (.slice bd ps.length be) ps.length bs 0 _ 1 [.slice cw I.length cx] rfl rfl (Own.alloc aY.out _) (by omega) (Jl _ _ cw I.length cx rfl) (by unfold maxLen;omega) (by omega) ?_;intro dc bt aC aD aZ _;(have cz:=Z (Jr.app cy.out aY.out dp.out _ a5.out.1 a5.out.2.1 a5.out.2.2.2 aC aD aZ));(obtain⟨de,df,rfl,_,_⟩:=Own.form aC);clear aC aD aZ);refine(cr.out bt cz.out.st).mono ?_;rintro e cl ⟨rfl,aF⟩;have cA:=Z (cz.out.grown aF);clear aF;go_wp2_with fail;refine(cs.out cl cA.out.st).mono ?_;rintro e dq ⟨rfl,cB⟩;have aP:=Z (cA.out.grown cB);clear cB;have bJ:=Z (show∀m∈ps++[I],m≠[]from fun m az=>by
     rw[List.mem_append,List.mem_singleton]at az;rcases az with az|rfl
     ·exact bZ.out m az
     ·exact dm.out)
    have aG:=Z (show BO (ps++[I])+10*h.length≤5000∧(ps++[I]).length+h.length≤600 by
     rw[EM,BE,Cd];have:=bE.out;have:=dn.out;omega)
    go_upto_region 13 with(fail);go_cut [43] (fun dr af=>dr=.bool (!(L||bD||cp))∧af=dq);case first=>
     cases L with
     |true=>
      exact Z0m
     |false=>
      cases bD with
      |true=>
       exact Z0m
      |false=>
       exact Z0m
    case rest=>
     obtain⟨rfl,ds⟩:=hcut;subst ds;obtain⟨dt,a6⟩: ∃c,(L||bD||cp)=c:=⟨_,rfl⟩;have du:=Z a6;rw[a6]at aN;simp only[a6];clear a6;cases dt with
     |false=>
      have ag:=Z (show R=KQ ((AP (ps++[I])).2,G||L) h (AP (ps++[I])).1 from aN.out);go_wp2_with fail;go_meet;exact⟨.ok h d,⟨_,_,_,rfl⟩,aP.out.st,aP.out.gr,.inl ⟨h,ps++[I],G||L,rfl,rfl,ag.out,aP.out,by simp,bJ.out,by have:=aG.out.1;omega,by have:=aG.out.2;omega⟩⟩
     |true=>
      obtain⟨t,r,ai⟩:=cn.out.ne;have bK:t.k≠4:=by
       have N:=du.out;have au:=dj.out;rw[Bool.or_eq_true,Bool.or_eq_true]at N;rcases N with(N|N)|N
       ·exact(Fx (ai▸(au.1.trans N))).1
       ·exact(Fx (ai▸(au.2.1.trans N))).1
       ·exact(Fx (ai▸(au.2.2.trans N))).1
      have cC:h.tail=r:=(by rw[ai];rfl);have bL:=Z (show R=((if BX (AG r)=true then CY (O d) f (AP (ps++[I])).2 (G||L) (AG r) (AP (ps++[I])).1 else .ok ((AP (ps++[I])).2,G||L) (AG r) (AP (ps++[I])).1:PR (List Int×Bool))).bind KQ by rw[aN.out,Ah rfl,cC]);have ao:Good r:=(ai▸cn.out:Good (t::r)).tail bK;have aQ:=Z (Ad ao);have aR:=Z (show r.length+1=h.length by rw[ai];rfl);obtain⟨bg,a,b0,z,aq,ar⟩:=aP.out.st;obtain⟨al,am,an,c3,c4⟩:=z.cells;have lb:=z.lb;have dv:=Y.frozen z.BD 1;have dw:(a:Int)≤500:=(by have:=z.lt;have:=z.tg.len;omega);have dx:=Z (BS.next z aq ar ai bK);clear z aq ar ai bK cC ao;go_upto_region 15 with(fail);have cD:=AM (AB wc (some rb)) (p:=⟨rb,1,none⟩) (.inl rfl) (.int .i64 ((a:Int)+1));have bM:=Z (aP.out.step cD dx.out);generalize wc.setCell ⟨rb,1,none⟩ (.int .i64 ((a:Int)+1))=dy at bM⊢;clear cD al am an c3 c4 lb dv dw;have dz:=Z (aH.out dy r bM.out.st);go_wp2_with fail;refine dz.out.mono ?_;rintro e dA ⟨rfl,bN,cE⟩;have dB:=Z (bM.out.step cE bN);have cF:=Z (a9.out dA (AG r) bN);clear bN cE;obtain⟨dC,cG⟩: ∃b,BX (AG r)=b:=⟨_,rfl⟩;rw[cG]at cF bL;clear cG;go_wp2_with fail;refine cF.out.mono ?_;rintro e dU ⟨rfl,cH⟩;have a7:=Z (dB.out.grown cH);clear cH;cases dC with
      |false=>
       have ag:=Z (show R=KQ ((AP (ps++[I])).2,G||L) (AG r) (AP (ps++[I])).1 from bL.out);go_wp2_with fail;go_meet;exact⟨.ok (AG r) d,⟨_,_,_,rfl⟩,a7.out.st,a7.out.gr,.inl ⟨AG r,ps++[I],G||L,rfl,rfl,ag.out,a7.out,by simp,bJ.out,by have:=aG.out.1;omega,by have:=aG.out.2;omega⟩⟩
      |true=>
       have ag:=Z (show(CY (O d) f (AP (ps++[I])).2 (G||L) (AG r) (AP (ps++[I])).1).bind KQ=R from bL.out.symm);go_wp2_with fail;go_roundg (gk-1);case rel=>exact⟨f,AG r,ps++[I],G||L,rfl,ag.out,by have:=aQ.out.2;have:=aR.out;have:=a1.out.2.2.2.2;have:=aK.out;omega,by have:=aQ.out.2;have:=aR.out;have:=a1.out.2.2.2.2;have:=aK.out;omega,by have:=aQ.out.2;have:=aR.out;have:=a1.out.2.2.2.2;have:=aK.out;omega,a7.out,bJ.out,by have:=aQ.out.2;have:=aR.out;have:=aG.out.1;omega,by have:=aQ.out.2;have:=aR.out;have:=aG.out.2;omega⟩
       case measure=>have:=aK.out;omega
end Go.Proofs.YtdhfhphbkfgamaaGreat
