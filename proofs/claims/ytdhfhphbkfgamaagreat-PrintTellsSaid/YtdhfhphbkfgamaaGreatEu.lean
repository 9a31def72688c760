/- PrintTells: a part of its proof. -/
import Derived.Test.YtdhfhphbkfgamaaGreatEt
import Derived.Test.YtdhfhphbkfgamaaGreatPv
import Derived.Test.YtdhfhphbkfgamaaGreatXu
set_option maxRecDepth 100000
set_option maxHeartbeats 64000000
namespace Go.Proofs.YtdhfhphbkfgamaaGreat
open Go.RowKit Lx
def UX (f:Nat):Prop:= ∀rb T d ts w,BS w rb T (.ok ts d)→ts.length≤f→El ts=true→Calls Tryz.prog 115 #[.pointer (some ⟨rb,0,none⟩)] w (F0 (Fe w) (XU w) rb T d w (Ez (core f) d ts []))
theorem PD (f:Nat) (F:UX f):Qw LJ 48 (Ak f) f:=by
 have h:FF 5 (FE (Ez (core f))):=Iy (F1 (ES f));have z:GX (FE (Ez (core f))):=UJ (RT f);have G:=NM f (Ez (core f)) (F1 (ES f)) F;have I:=RM f (FE (Ez (core f))) h z G;have J:=Rj f (fun d=>FB (FE (Ez (core f)) d)) (fun d=>He (h d)) (fun d=>N3 (z d)) I;exact SN f (fun d=>Fz (FB (FE (Ez (core f)) d))) (fun d=>KZ (He (h d))) (fun d=>Rb (N3 (z d))) J
theorem M9: ∀f,UX f
 |0=>fun rb T d ts w z h _=>by
  obtain⟨t,r,e⟩:=z.Aj.1.ne;rw[e]at h;simp at h
 |f+1=>fun rb T d ts w z h F=>LH f (Ak f) (KY f) (Qp (RT f)) (PD f (M9 f)) rb T ts d w z h F
theorem Sw (f:Nat):Qw LJ 48 (Ak f) f:=PD f (M9 f)
theorem BS.start {w:World} {F:Nat} {ts:List AX} {v:Value} (h:Vg F ts) (M:F≤4096) (I:Wl ts) (G:Own w 69 3 v ts.length (JK ts) 0):BS (w.alloc (.cells #[v,.int .i64 0,.int .i64 0,.int .i64 0,.int .i64 0] 86)) w.heap.size ts (.ok ts 0):=by
 refine⟨v,0,0,⟨Y.new w 86 _,G.alloc _,h.Aj.pos,⟨h.Aj,I,fun t J=>?_,by have:=h.len;omega⟩,fun g K=>G.lt K⟩,List.drop_zero,by omega⟩;rcases h.w t J with⟨z,L,_⟩|z
 ·exact⟨by rw[L];simp,fun e=>by omega⟩
 ·exact⟨z.len,z.io⟩
def Vv (ns:List V):List AX→Ps
 |[]=>⟨[],0,0⟩
 |u::_=>if u.k≠4 then⟨[],u.a,17⟩else if 300<ns.length then⟨[],0,12⟩else⟨ns,0,0⟩
def OL:PR Int→Ps
 | .bad a e=>⟨[],a,e⟩
 | .ok _ h ns=>Vv ns h
theorem Pk (ts:List AX) (t:AX) (r:List AX):MI ts (t::r)=if t.k=4 then⟨[],0,0⟩else OL (Ak ts.length 0 (t::r) []):=by
 show(if t.k=4 then _ else _)=_;congr 1
theorem Z0B {P:Prop} (h:P:=by
 subst aD;obtain⟨aj,i,bw,h,F⟩:=X.out;obtain⟨z,I,J,c3,c4⟩:=h.cells;have lb:=h.lb;have aA:(L==0)=false:=Ba F;have aB:(L !=0)=true:=JG F;clear h F;go_upto_region 12 with(fail);go_quiet (fail);have a6:=Z (fun n=>AI aa.out (As (AB aC none) n));clear z I J c3 c4 lb aA aB;go_wp2_with fail;rw[W.out];go_ret3;exact⟨_,rfl,Cm.nil _ _,fun b K=>(by cases K),a6.out _⟩):P:=h
theorem Nt (s:List UInt8) (w:World) (bc:s.length≤9223372036854775807):Calls Tryz.prog 16 #[sv s] w (Er w (B9 s)):=by
 have af:=Z (fun G=>Wh s G bc);obtain⟨R,aH⟩: ∃R,B9 s=R:=⟨_,rfl⟩;rw[aH];have aI:=Z (show R=(match Fp s with| .err a e=>⟨[],a,e⟩| .ok ts=>Io ts)from aH.symm);obtain⟨aJ,aK⟩: ∃aJ,Fp s=aJ:=⟨_,rfl⟩;rw[aK]at af aI;have aL:=Z aK;unfold Er sv at*;clear aH aK bc;cases aJ with
 |err a e=>
  have bF:=Z (UP aL.out);have b3:(e !=0)=true:=(by rw[bne_iff_ne];exact bF.out.1);unfold DK at af;go_enter Tryz.func16,Tryz.ntmps16;go_wp2_with fail;refine(af.out _).mono ?_;rintro bG aM ⟨rfl,ab⟩;have bH:=Z ab;clear ab;go_wp2_with fail;rw[show R=⟨[],a,e⟩from aI.out];go_ret3;exact⟨_,rfl,Cm.nil _ _,fun b K=>(by cases K),bH.out⟩
 |ok ts=>
  obtain⟨bd,be⟩:=Gs aL.out;have bf:=Z be;have bI:=Z (VY aL.out);have bJ:=Z bd;have bg:=Z (show R=MI ts (AG ts)from aI.out.trans (QZ ts));have bh:=Z (fun G rb ag (ah:BS G rb ts ag)=>C9 rb ts ag G ah);have bi:=Z (fun G rb ag (ah:BS G rb ts ag)=>EE rb ts ag G ah);have bK:=Z (fun G rb aN (ah:BS G rb ts (.ok aN 0)) (bL:aN.length≤ts.length)=>Sw ts.length rb ts 0 aN G ah bL);unfold Qu at bh bi;unfold DK at af;clear bd be;go_enter Tryz.func16,Tryz.ntmps16;go_wp2_with fail;refine(af.out _).mono ?_;rintro bG aM ⟨⟨v,rfl,aO,_⟩,ab⟩;obtain⟨bj,bk,rfl,_,_⟩:=Own.form aO;have bl:=Z (BS.start bf.out bJ.out bI.out aO);have bm:=Z (AF ab (.cells #[.slice bj ts.length bk,.int .i64 0,.int .i64 0,.int .i64 0,.int .i64 0] 86));have ai:=Z ab.size;clear aO ab;go_upto_region 5 with(fail);generalize aM.alloc (.cells #[.slice bj ts.length bk,.int .i64 0,.int .i64 0,.int .i64 0,.int .i64 0] 86)=bM,aM.heap.size=rb at bl bm ai⊢;have bN:=Z (bh.out bM rb _ bl.out);go_wp2_with fail;refine bN.out.mono ?_;rintro e aP ⟨rfl,bn,bo⟩;have aQ:=Z (show BS aP rb ts (.ok (AG ts) 0)from bn);have bO:=Z (ET bm.out ai.out bo);clear bn bo;have aR:=Ad bf.out.Aj;obtain⟨aS,ac⟩: ∃aS,AG ts=aS:=⟨_,rfl⟩;rw[ac]at aQ bg aR;have bp:=Z aR;clear ac aR;obtain⟨t,r,rfl⟩:=bp.out.1.ne;have aT:=Z (show R=if t.k=4 then⟨[],0,0⟩else OL (Ak ts.length 0 (t::r) [])from bg.out.trans (Pk _ _ _));obtain⟨aj,a,bq,h,N,O⟩:=aQ.out;obtain⟨z,I,J,c3,c4⟩:=h.cells;obtain⟨g,bP,bQ,bR,bS,rfl,ak,aU,al,am,an,ao⟩:=h.DY;have lb:=h.lb;have aV:=h.lt;have ap:(0:Int)≤(a:Int)∧(a:Int)<((ts.length:Nat):Int):=(by omega);have aq:=h.tg.len;obtain⟨LT,ar⟩: ∃LT,ts.length=LT:=⟨_,rfl⟩;have aW:(a:Int)≤500:=(by omega);have bT:=Z h;have bU:=Z (A8 N O);have ac:=N.symm.trans al;injection ac with aX aY;subst aX aY;rw[ar]at z ap ak aq;have aZ:=Y.frozen h.BD 1;clear h N O al ar aV;obtain⟨ad,bV,bW⟩:=t;simp only[]at am an ao aT;obtain⟨a0,a1⟩: ∃b,((ad:Int)==4)=b:=⟨_,rfl⟩;have br:=Z (show decide (ad=4)=a0 by
   rw[←a1];by_cases au:ad=4
   ·subst au;rfl
   ·rw[Aq au];symm;rw[beq_eq_false_iff_ne];omega)
  go_upto_region 6 with(fail);go_cut [36] (fun bX aw=>bX=.bool a0∧aP.grownBy aw none);case first=>
   go_quiet (fail);go_wp2_with fail;go_meet;exact⟨by first|rfl|(rw[a1]),As (AB aP none) _⟩
  case rest=>
  obtain⟨rfl,a2⟩:=hcut;have bY:=Z (aQ.out.grown a2);have aF:=Z (AI bO.out a2);clear a2 a1;clear z I J c3 c4 am an ao aU lb ap aq aW ak aZ;cases a0 with
  |true=>
   have hk:ad=4:=of_decide_eq_true br.out;go_wp2_with fail;rw[show R=⟨[],0,0⟩from aT.out.trans (Ah hk)];go_ret3;exact⟨_,rfl,Cm.nil _ _,fun b K=>(by cases K),aF.out⟩
  |false=>
   have hk:ad≠4:=of_decide_eq_false br.out;have bs:=Z (bK.out wc rb _ bY.out bp.out.2);obtain⟨bt,a3⟩: ∃P,Ak ts.length 0 (⟨ad,bV,bW⟩::r) []=P:=⟨_,rfl⟩;rw[a3]at bs;have bu:=Z (show R=OL bt from by rw[aT.out,U hk,a3]);clear hk a3;go_wp2_with fail;refine bs.out.mono ?_;cases bt with
   |bad bv L=>
    rintro e ax ⟨v,rfl,rfl,ae,ay⟩;have az:=Z ae;have a4:=Z (ET aF.out ai.out ay);have W:=Z (show R=⟨[],bv,L⟩from bu.out);clear ae ay;obtain⟨aj,i,bw,h,F⟩:=az.out;obtain⟨z,I,J,c3,c4⟩:=h.cells;have lb:=h.lb;have aA:(L==0)=false:=Ba F;have aB:(L !=0)=true:=JG F;clear h F;go_upto_region 9 with(fail);go_cut [57] (fun a5 aw=>a5=.bool false∧ax.grownBy aw none);case first=>
     go_quiet (fail);go_wp2_with fail;go_meet;exact⟨rfl,As (AB ax none) _⟩
    case rest=>
    obtain⟨rfl,M⟩:=hcut;have X:=Z (az.out.grown M);have aa:=Z (AI a4.out M);clear M z I J c3 c4 lb aA aB;obtain⟨aC,aD⟩: ∃x,x=wc:=⟨_,rfl⟩;exact Z0B
   |ok x aS ns=>
    rintro e ax ⟨v,rfl,a7,ae,ay⟩;obtain⟨b4,b5,rfl⟩:=a7.form;have az:=Z ae;have bZ:=Z (a7.low aF.out.size);have a4:=Z (ET aF.out ai.out ay);obtain⟨u,b6,rfl⟩:=ae.Aj.1.ne;have a8:=Z (show R=if u.k≠4 then⟨[],u.a,17⟩else if 300<ns.length then⟨[],0,12⟩else⟨ns,0,0⟩from bu.out);clear ae ay a7;obtain⟨aj,a,bq,h,N,O⟩:=az.out;obtain⟨z,I,J,c3,c4⟩:=h.cells;obtain⟨g,bP,bQ,bR,bS,rfl,ak,aU,al,am,an,ao⟩:=h.DY;have lb:=h.lb;have aV:=h.lt;have ap:(0:Int)≤(a:Int)∧(a:Int)<((ts.length:Nat):Int):=(by omega);have aq:=h.tg.len;obtain⟨LT,ar⟩: ∃LT,ts.length=LT:=⟨_,rfl⟩;have aW:(a:Int)≤500:=(by omega);have bT:=Z h;have bU:=Z (A8 N O);have ac:=N.symm.trans al;injection ac with aX aY;subst aX aY;rw[ar]at z ap ak aq;have aZ:=Y.frozen h.BD 1;clear h N O al ar aV;obtain⟨aE,b7,bx⟩:=u;simp only[]at am an ao a8;obtain⟨a9,a'⟩: ∃b,((aE:Int) !=4)=b:=⟨_,rfl⟩;have bz:=Z (show decide (aE≠4)=a9 by
     rw[←a'];by_cases au:aE=4
     ·subst au;rfl
     ·rw[At au];symm;rw[bne_iff_ne];omega)
    go_upto_region 9 with(fail);go_cut [57] (fun a5 aw=>a5=.bool a9∧ax.grownBy aw none);case first=>
     go_quiet (fail);go_wp2_with fail;go_meet;exact⟨by first|rfl|(rw[a']),As (AB ax none) _⟩
    case rest=>
    obtain⟨rfl,M⟩:=hcut;have X:=Z (az.out.grown M);have bA:=Z (bZ.out.grown M);have aa:=Z (AI a4.out M);clear M a';clear z I J c3 c4 am an ao aU lb ap aq aW ak aZ;obtain⟨aC,aD⟩: ∃x,x=wc:=⟨_,rfl⟩;subst aD;cases a9 with
    |true=>
     have hk:aE≠4:=of_decide_eq_true bz.out;have W:=Z (show R=⟨[],bx,17⟩from a8.out.trans (Ah hk));have ba:=Z (bi.out aC rb _ X.out);unfold Ev at ba;simp only[hk,if_false]at ba;clear hk;go_wp2_with fail;refine ba.out.mono ?_;rintro e b0 ⟨rfl,bB,bC⟩;have X:=Z bB;have aa:=Z (ET aa.out ai.out bC);clear bB bC;obtain⟨bv,bD⟩: ∃x:Int,(bx:Int)=x:=⟨_,rfl⟩;obtain⟨L,bE⟩: ∃x:Int,(17:Int)=x:=⟨_,rfl⟩;rw[bD,bE]at X W;clear bD bE;obtain⟨aC,aD⟩: ∃x,x=b0:=⟨_,rfl⟩;exact Z0B
    |false=>
     have hk: ¬aE≠4:=of_decide_eq_false bz.out;have W:=Z (show R=if 300<ns.length then⟨[],0,12⟩else⟨ns,0,0⟩from a8.out.trans (U hk));clear hk;obtain⟨aj,i,bq,h,O,b1⟩:=X.out;obtain⟨z,I,J,c3,c4⟩:=h.cells;have lb:=h.lb;clear h O b1;by_cases aG:300<ns.length
     ·have b2:decide ((300:Int)<(ns.length:Int))=true:=At (by omega);have bb:=Z (W.out.trans (Ah aG));clear aG;go_wp2_with fail;rw[bb.out];go_ret3;exact⟨_,rfl,Cm.nil _ _,fun b K=>(by cases K),aa.out⟩
     ·have b2:decide ((300:Int)<(ns.length:Int))=false:=Aq (by omega);have bb:=Z (W.out.trans (U aG));clear aG;go_wp2_with fail;rw[bb.out];go_ret3;exact⟨_,rfl,bA.out.1,bA.out.2.2.2,aa.out⟩
end Go.Proofs.YtdhfhphbkfgamaaGreat
