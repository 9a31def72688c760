/- A part. -/
import Derived.Test.YtdhfhphbkfgamaaGreatEt
import Derived.Test.YtdhfhphbkfgamaaGreatPv
import Derived.Test.YtdhfhphbkfgamaaGreatXu
set_option maxRecDepth 100000
set_option linter.all false
set_option maxHeartbeats 0
namespace Go.Proofs.YtdhfhphbkfgamaaGreat
open Go.RowKit Lx Proofs.Tryz
def VG(f:Nat):Prop:=∀rb T d ts w,BU w rb T (.ok ts d)->ts.length<=f->E7 ts=true->Calls prog 115 #[.pointer (some ⟨rb,0,none⟩)] w (GU (F2 w) (X7 w) rb T d w (FI (core f) d ts []))
theorem PJ(f:Nat)(F:VG f):Sa Lm 48 (Al f) f:=by
 have h:Fc 5 (FW (FI (core f))):=JV (GO (Ep f));have z:Hv (FW (FI (core f))):=VC (Sg f);have G:=Nh f (FI (core f)) (GO (Ep f)) F;have I:=RO f (FW (FI (core f))) h z G;have J:=Rh f (fun d=>FM (FW (FI (core f)) d)) (fun d=>IJ (h d)) (fun d=>O2 (z d)) I;exact SV f (fun d=>GV (FM (FW (FI (core f)) d))) (fun d=>LW (IJ (h d))) (fun d=>RU (O2 (z d))) J
theorem Nj:∀f,VG f
 |0=>fun rb T d ts w z h _=>by
  obtain⟨t,r,e⟩:=z.Ak.1.ne;rw[e]at h;simp at h
 |f+1=>fun rb T d ts w z h F=>Ln f (Al f) (Ko f) (Sp (Sg f)) (PJ f (Nj f)) rb T ts d w z h F
theorem UZ(f:Nat):Sa Lm 48 (Al f) f:=PJ f (Nj f)
theorem BU.start{w:World}{F:Nat}{ts:List AY}{v:Value}(h:Vg F ts)(M:F<=4096)(I:Wl ts)(G:Own w 69 3 v ts.length (Jo ts) 0):BU (w.alloc (.cells #[v,.int .i64 0,.int .i64 0,.int .i64 0,.int .i64 0] 86)) w.heap.size ts (.ok ts 0):=by
 refine⟨v,0,0,⟨Y.new w 86 _,G.alloc _,h.Ak.pos,⟨h.Ak,I,fun t J=>?_,by have:=h.len;omega⟩,fun g K=>G.lt K⟩,List.drop_zero,by omega⟩;rcases h.w t J with⟨z,L,_⟩|z
 ·exact⟨by rw[L];simp,fun e=>by omega⟩
 ·exact⟨z.len,z.io⟩
def Vs(ns:List V):List AY->Ps
 |[]=>⟨[],0,0⟩
 |u::_=>if u.k≠4 then⟨[],u.a,17⟩else if 300<ns.length then⟨[],0,12⟩else⟨ns,0,0⟩
def Of:PR Int->Ps
 | .bad a e=>⟨[],a,e⟩
 | .ok _ h ns=>Vs ns h
theorem QF(ts:List AY)(t:AY)(r:List AY):M3 ts (t::r)=if t.k=4 then⟨[],0,0⟩else Of (Al ts.length 0 (t::r) []):=by
 show(if t.k=4 then _ else _)=_;congr 1
theorem OM(s:List UInt8)(w:World)(a8:s.length<=9223372036854775807):Calls prog 16 #[sv s] w (FH w (CD s)):=by
 have af:=Z (fun G=>Xo s G a8);obtain⟨R,aE⟩:=U (CD s);rw[aE];have aF:=Z (show R=(match GA s with| .err a e=>⟨[],a,e⟩| .ok ts=>JK ts)from aE.symm);obtain⟨bA,aG⟩:=U (GA s);rw[aG]at af aF;have aH:=Z aG;unfold FH sv at*;clear aE aG a8;cases bA with
 |err a e=>
  have bB:=Z (VQ aH.out);have bZ:(e !=0)=true:=(by rw[bne_iff_ne];exact bB.out.1);unfold DV at af;go_enter func16,ntmps16;go_wp2_with fail;refine(af.out _).mono ?_;rintro bC aI ⟨rfl,ab⟩;have bD:=Z ab;clear ab;go_wp2_with fail;rw[show R=⟨[],a,e⟩from aF.out];go_ret3;exact⟨_,rfl,Ct.nil _ _,fun b K=>(by cases K),bD.out⟩
 |ok ts=>
  obtain⟨a9,a'⟩:=Ie aH.out;have ba:=Z a';have bE:=Z (WB aH.out);have bF:=Z a9;have bb:=Z (show R=M3 ts (AG ts)from aF.out.trans (QL ts));have bc:=Z (fun G rb ag (ah:BU G rb ts ag)=>DM rb ts ag G ah);have bd:=Z (fun G rb ag (ah:BU G rb ts ag)=>EX rb ts ag G ah);have bG:=Z (fun G rb aJ (ah:BU G rb ts (.ok aJ 0)) (bH:aJ.length<=ts.length)=>UZ ts.length rb ts 0 aJ G ah bH);unfold Qu at bc bd;unfold DV at af;clear a9 a';go_enter func16,ntmps16;go_wp2_with fail;refine(af.out _).mono ?_;rintro bC aI ⟨⟨v,rfl,aK,_⟩,ab⟩;obtain⟨be,bf,rfl,_,_⟩:=Own.form aK;have bg:=Z (BU.start ba.out bF.out bE.out aK);have bh:=Z (AF ab (.cells #[.slice be ts.length bf,.int .i64 0,.int .i64 0,.int .i64 0,.int .i64 0] 86));have ai:=Z ab.size;clear aK ab;go_upto_region 5 with(fail);generalize aI.alloc (.cells #[.slice be ts.length bf,.int .i64 0,.int .i64 0,.int .i64 0,.int .i64 0] 86)=bI,aI.heap.size=rb at bg bh ai⊢;have bJ:=Z (bc.out bI rb _ bg.out);go_wp2_with fail;refine bJ.out.mono ?_;rintro e aL ⟨rfl,bi,bj⟩;have aM:=Z (show BU aL rb ts (.ok (AG ts) 0)from bi);have bK:=Z (Em bh.out ai.out bj);clear bi bj;have aN:=Ae ba.out.Ak;obtain⟨bL,ac⟩:=U (AG ts);rw[ac]at aM bb aN;have bk:=Z aN;clear ac aN;obtain⟨t,r,rfl⟩:=bk.out.1.ne;have aO:=Z (show R=if t.k=4 then⟨[],0,0⟩else Of (Al ts.length 0 (t::r) [])from bb.out.trans (QF _ _ _));obtain⟨aj,a,bl,h,N,O⟩:=aM.out;obtain⟨z,I,J,c3,c4⟩:=h.cells;obtain⟨g,bM,bN,t9,bO,rfl,ak,aP,al,t0,t1,t2⟩:=h.Dh;have lb:=h.lb;have aQ:=h.lt;have am:(0:Int)<=(a:Int)/\(a:Int)<((ts.length:Nat):Int):=(by omega);have an:=h.tg.len;obtain⟨LT,ao⟩:=U ts.length;have aR:(a:Int)<=500:=(by omega);have bP:=Z h;have bQ:=Z (BC N O);have ac:=N.symm.trans al;injection ac with aS aT;subst aS aT;rw[ao]at z am ak an;have aU:=Y.frozen h.BF 1;clear h N O al ao aQ;obtain⟨ad,bR,bS⟩:=t;simp only[]at t0 t1 t2 aO;obtain⟨aV,aW⟩:=U (((ad:Int)==4));have bm:=Z (show decide (ad=4)=aV by
   rw[<-aW];by_cases ap:ad=4
   ·subst ap;rfl
   ·rw[As ap];symm;rw[A4];omega)
  go_upto_region 6 with(fail);go_cut [36] (fun bT aq=>bT=.bool aV/\aL.grownBy aq none);case first=>
   go_quiet (fail);go_wp2_with fail;go_meet;exact⟨by first|rfl|(rw[aW]),At (AB aL none) _⟩
  case rest=>
  obtain⟨rfl,aX⟩:=hcut;have bU:=Z (aM.out.grown aX);have aC:=Z (AI bK.out aX);clear aX aW;clear z I J c3 c4 t0 t1 t2 aP lb am an aR ak aU;cases aV with
  |true=>
   have hk:ad=4:=of_decide_eq_true bm.out;go_wp2_with fail;rw[show R=⟨[],0,0⟩from aO.out.trans (Ai hk)];go_ret3;exact⟨_,rfl,Ct.nil _ _,fun b K=>(by cases K),aC.out⟩
  |false=>
   have hk:ad≠4:=of_decide_eq_false bm.out;have bn:=Z (bG.out wc rb _ bU.out bk.out.2);obtain⟨bo,aY⟩:=U (Al ts.length 0 (⟨ad,bR,bS⟩::r) []);rw[aY]at bn;have bp:=Z (show R=Of bo from by rw[aO.out,AP hk,aY]);clear hk aY;go_wp2_with fail;refine bn.out.mono ?_;cases bo with
   |bad bq L=>
    rintro e ar ⟨v,rfl,rfl,ae,au⟩;have aw:=Z ae;have aZ:=Z (Em aC.out ai.out au);have W:=Z (show R=⟨[],bq,L⟩from bp.out);clear ae au;obtain⟨aj,i,br,h,F⟩:=aw.out;obtain⟨z,I,J,c3,c4⟩:=h.cells;have lb:=h.lb;have ax:(L==0)=false:=Bd F;have ay:(L !=0)=true:=JY F;clear h F;go_upto_region 9 with(fail);go_cut [57] (fun a0 aq=>a0=.bool false/\ar.grownBy aq none);case first=>
     go_quiet (fail);go_wp2_with fail;go_meet;exact⟨rfl,At (AB ar none) _⟩
    case rest=>
    obtain⟨rfl,M⟩:=hcut;have X:=Z (aw.out.grown M);have aa:=Z (AI aZ.out M);clear M z I J c3 c4 lb ax ay;obtain⟨az,aA⟩:=JH wc;subst aA;obtain⟨aj,i,br,h,F⟩:=X.out;obtain⟨z,I,J,c3,c4⟩:=h.cells;have lb:=h.lb;have ax:(L==0)=false:=Bd F;have ay:(L !=0)=true:=JY F;clear h F;go_upto_region 12 with(fail);go_quiet (fail);have a1:=Z (fun n=>AI aa.out (At (AB az none) n));clear z I J c3 c4 lb ax ay;go_wp2_with fail;rw[W.out];go_ret3;exact⟨_,rfl,Ct.nil _ _,fun b K=>(by cases K),a1.out _⟩
   |ok x bL ns=>
    rintro e ar ⟨v,rfl,a2,ae,au⟩;obtain⟨b0,b1,rfl⟩:=a2.form;have aw:=Z ae;have bV:=Z (a2.low aC.out.size);have aZ:=Z (Em aC.out ai.out au);obtain⟨u,b2,rfl⟩:=ae.Ak.1.ne;have a3:=Z (show R=if u.k≠4 then⟨[],u.a,17⟩else if 300<ns.length then⟨[],0,12⟩else⟨ns,0,0⟩from bp.out);clear ae au a2;obtain⟨aj,a,bl,h,N,O⟩:=aw.out;obtain⟨z,I,J,c3,c4⟩:=h.cells;obtain⟨g,bM,bN,t9,bO,rfl,ak,aP,al,t0,t1,t2⟩:=h.Dh;have lb:=h.lb;have aQ:=h.lt;have am:(0:Int)<=(a:Int)/\(a:Int)<((ts.length:Nat):Int):=(by omega);have an:=h.tg.len;obtain⟨LT,ao⟩:=U ts.length;have aR:(a:Int)<=500:=(by omega);have bP:=Z h;have bQ:=Z (BC N O);have ac:=N.symm.trans al;injection ac with aS aT;subst aS aT;rw[ao]at z am ak an;have aU:=Y.frozen h.BF 1;clear h N O al ao aQ;obtain⟨aB,b3,bs⟩:=u;simp only[]at t0 t1 t2 a3;obtain⟨a4,a5⟩:=U (((aB:Int) !=4));have bt:=Z (show decide (aB≠4)=a4 by
     rw[<-a5];by_cases ap:aB=4
     ·subst ap;rfl
     ·rw[Au ap];symm;rw[bne_iff_ne];omega)
    go_upto_region 9 with(fail);go_cut [57] (fun a0 aq=>a0=.bool a4/\ar.grownBy aq none);case first=>
     go_quiet (fail);go_wp2_with fail;go_meet;exact⟨by first|rfl|(rw[a5]),At (AB ar none) _⟩
    case rest=>
    obtain⟨rfl,M⟩:=hcut;have X:=Z (aw.out.grown M);have bu:=Z (bV.out.grown M);have aa:=Z (AI aZ.out M);clear M a5;clear z I J c3 c4 t0 t1 t2 aP lb am an aR ak aU;obtain⟨az,aA⟩:=JH wc;subst aA;cases a4 with
    |true=>
     have hk:aB≠4:=of_decide_eq_true bt.out;have W:=Z (show R=⟨[],bs,17⟩from a3.out.trans (Ai hk));have a6:=Z (bd.out az rb _ X.out);unfold FC at a6;simp only[hk,if_false]at a6;clear hk;go_wp2_with fail;refine a6.out.mono ?_;rintro e bW ⟨rfl,bv,bw⟩;have X:=Z bv;have aa:=Z (Em aa.out ai.out bw);clear bv bw;obtain⟨bq,bx⟩:∃x:Int,(bs:Int)=x:=⟨_,rfl⟩;obtain⟨L,bz⟩:∃x:Int,(17:Int)=x:=⟨_,rfl⟩;rw[bx,bz]at X W;clear bx bz;obtain⟨az,aA⟩:=JH bW;subst aA;obtain⟨aj,i,br,h,F⟩:=X.out;obtain⟨z,I,J,c3,c4⟩:=h.cells;have lb:=h.lb;have ax:(L==0)=false:=Bd F;have ay:(L !=0)=true:=JY F;clear h F;go_upto_region 12 with(fail);go_quiet (fail);have a1:=Z (fun n=>AI aa.out (At (AB az none) n));clear z I J c3 c4 lb ax ay;go_wp2_with fail;rw[W.out];go_ret3;exact⟨_,rfl,Ct.nil _ _,fun b K=>(by cases K),a1.out _⟩
    |false=>
     have hk:¬aB≠4:=of_decide_eq_false bt.out;have W:=Z (show R=if 300<ns.length then⟨[],0,12⟩else⟨ns,0,0⟩from a3.out.trans (AP hk));clear hk;obtain⟨aj,i,bl,h,O,bX⟩:=X.out;obtain⟨z,I,J,c3,c4⟩:=h.cells;have lb:=h.lb;clear h O bX;by_cases aD:300<ns.length
     ·have bY:decide ((300:Int)<(ns.length:Int))=true:=Au (by omega);have a7:=Z (W.out.trans (Ai aD));clear aD;go_wp2_with fail;rw[a7.out];go_ret3;exact⟨_,rfl,Ct.nil _ _,fun b K=>(by cases K),aa.out⟩
     ·have bY:decide ((300:Int)<(ns.length:Int))=false:=As (by omega);have a7:=Z (W.out.trans (AP aD));clear aD;go_wp2_with fail;rw[a7.out];go_ret3;exact⟨_,rfl,bu.out.1,bu.out.2.2.2,aa.out⟩
end Go.Proofs.YtdhfhphbkfgamaaGreat
