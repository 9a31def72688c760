/- PrintTells: a part of its proof. -/
import Derived.Test.YtdhfhphbkfgamaaGreatTk
set_option maxRecDepth 100000
set_option maxHeartbeats 64000000
namespace Go.Proofs.YtdhfhphbkfgamaaGreat
section
open Go.RowKit Lx
theorem BV {a b c:World} (h:a.grownBy b none) (k:b.grownBy c none):a.grownBy c none:=
 Az.grown (Az.trans (Az.AL h (fun k hk=>by cases hk):Az D4 a b) (Az.AL k (fun k hk=>by cases hk):Az D4 b c) (fun _ _ h=>h)) (fun _ _ h=>h)
theorem Z1n {P:Prop} (h:P:=by
 rw[decide_eq_false_iff_not];intro e;rw[e]at h;exact h rfl):P:=h
theorem Z1o {P:Prop} (h:P:=by
 go_wp2_with fail;go_ret;exact⟨rfl,AB _ _⟩):P:=h
theorem Je (n0:Nat) (a b:List (List UInt8)) (W X:Value) (w:World) (I:CQ n0 w W a) (J:CQ n0 w X b):
  Calls Tryz.prog 34 #[W,X] w fun e w'=>e=.returned (.bool (decide (a=b)))∧w.grownBy w' none:=by
 obtain⟨ap,aq,rfl,_,ar,_⟩:=I.now;obtain⟨au,aw,rfl,_,ax,_⟩:=J.now;have af:=Z I;have ag:=Z J;have ay:(a.length:Int)≤9223372036854775807:=(by omega);have az:(b.length:Int)≤9223372036854775807:=(by omega);clear I J;by_cases h:a.length=b.length
 ·have ah:((a.length:Int) !=(b.length:Int))=false:=(by rw[h];simp);have aa:=Z h;clear h;go_enter Tryz.func34,Tryz.ntmps34;go_wp2_with fail;go_loopw [13] (fun v wr=> ∃i:Nat,v=.int .i64 i∧i≤a.length∧a.take i=b.take i∧w.grownBy wr none) (fun v _=>a.length-(intOf v).toNat);case atStart=>exact⟨0,rfl,DM _,rfl,AB _ _⟩
  case round=>
   obtain⟨i,rfl,aA,ab,z⟩:=hrel;have ac:=Z ab;have K:=Z z;clear ab;by_cases L:i<a.length
   ·have ai:decide ((i:Int)<(a.length:Int))=true:=At (by omega);have ad:i<b.length:=(by rw[←aa.out];exact L);have aB:(0:Int)≤i∧(i:Int)<(a.length:Int):=(by omega);have aC:(0:Int)≤i∧(i:Int)<(b.length:Int):=(by omega);have hF:=PF.AL (n0:=n0) z;obtain⟨aD,aE,aj,aF,M⟩:=(CQ.pf af.out hF).get i L;obtain⟨aG,aH,ak,aI,N⟩:=(CQ.pf ag.out hF).get i ad;obtain⟨x,hx⟩: ∃x,a[i]=x:=⟨_,rfl⟩;obtain⟨y,hy⟩: ∃y,b[i]=y:=⟨_,rfl⟩;rw[hx]at M;rw[hy]at N;subst aj ak;by_cases F:x=y
    ·subst F;have al:=Z (show a.take (i+1)=b.take (i+1) by rw[List.take_succ_eq_append_getElem L,List.take_succ_eq_append_getElem ad,ac.out,hx,hy]);clear hx hy hF z;unfold sv at M N;go_wp2_with fail;go_quiet (fail);all_goals(try(rename_i nq;exact Ai rfl (by assumption)))
     rename_i nq;have O:=Z (BV K.out (Bm _ nq));go_wp2_with fail;go_roundw;case rel=>exact⟨i+1,by go_num,by omega,al.out,O.out⟩
     case measure=>simp[intOf];omega
    ·have G:decide (a=b)=false:=by
      rw[decide_eq_false_iff_not];intro e;subst e;exact F (hx.symm.trans hy)
     have am:=Z G;clear hx hy hF z G;have an:((ByteArray.mk x.toArray)==⟨y.toArray⟩)=false:=(by rw[IA,beq_eq_false_iff_ne];exact F);have aJ:((ByteArray.mk x.toArray) !=⟨y.toArray⟩)=true:=(by rw[bne,an];rfl);have aK:(x==y)=false:=(by rw[beq_eq_false_iff_ne];exact F);have aL: ¬(ByteArray.mk x.toArray=⟨y.toArray⟩):=fun e=>F (My.1 e)
     unfold sv at M N;go_wp2_with fail;go_quiet (fail);rename_i nq;have O:=Z (BV K.out (Bm _ nq));go_wp2_with fail;go_ret;exact⟨by rw[am.out];rfl,O.out⟩
   ·obtain rfl:i=a.length:=by omega
    have ai:decide ((a.length:Int)<(a.length:Int))=false:=Aq (by omega);have ae:decide (a=b)=true:=by
     rw[decide_eq_true_eq];have:=ac.out;rw[List.take_length,aa.out,List.take_length]at this;exact this
    have ao:=Z ae;clear ae z;go_wp2_with fail;go_ret;exact⟨by rw[ao.out];rfl,K.out⟩
 ·have ah:((a.length:Int) !=(b.length:Int))=true:=(by simp;omega);have G:decide (a=b)=false:=by
   exact Z1n
  rw[G];clear G;go_enter Tryz.func34,Tryz.ntmps34;exact Z1o
theorem Pf (n0:Nat) (a b:List Int) (N O:Value) (w:World) (G:E0 n0 w N a) (I:E0 n0 w O b):
  Calls Tryz.prog 36 #[N,O] w fun e w'=>e=.returned (.bool (decide (a=b)))∧w.grownBy w' none:=by
 obtain⟨ap,aq,rfl,_,ar,_⟩:=G.now;obtain⟨au,aw,rfl,_,ax,_⟩:=I.now;have ad:=Z G;have ae:=Z I;have ay:(a.length:Int)≤9223372036854775807:=(by omega);have az:(b.length:Int)≤9223372036854775807:=(by omega);clear G I;by_cases h:a.length=b.length
 ·have af:((a.length:Int) !=(b.length:Int))=false:=(by rw[h];simp);have W:=Z h;clear h;go_enter Tryz.func36,Tryz.ntmps36;go_wp2_with fail;go_loopw [13] (fun v wr=> ∃i:Nat,v=.int .i64 i∧i≤a.length∧a.take i=b.take i∧w.grownBy wr none) (fun v _=>a.length-(intOf v).toNat);case atStart=>exact⟨0,rfl,DM _,rfl,AB _ _⟩
  case round=>
   obtain⟨i,rfl,aA,X,z⟩:=hrel;have aa:=Z X;have J:=Z z;clear X;by_cases K:i<a.length
   ·have ag:decide ((i:Int)<(a.length:Int))=true:=At (by omega);have ab:i<b.length:=(by rw[←W.out];exact K);have aB:(0:Int)≤i∧(i:Int)<(a.length:Int):=(by omega);have aC:(0:Int)≤i∧(i:Int)<(b.length:Int):=(by omega);have hF:=PF.AL (n0:=n0) z;obtain⟨aD,aE,ah,aF,ai⟩:=(E0.pf ad.out hF).get i K;obtain⟨aG,aH,aj,aI,ak⟩:=(E0.pf ae.out hF).get i ab;obtain⟨x,hx⟩: ∃x,a[i]=x:=⟨_,rfl⟩;obtain⟨y,hy⟩: ∃y,b[i]=y:=⟨_,rfl⟩;rw[hx]at ai;rw[hy]at ak;subst ah aj;by_cases L:x=y
    ·subst L;have al:=Z (show a.take (i+1)=b.take (i+1) by rw[List.take_succ_eq_append_getElem K,List.take_succ_eq_append_getElem ab,aa.out,hx,hy]);clear hx hy hF z;go_wp2_with fail;go_quiet (fail);all_goals(try(rename_i nq;exact Ai rfl (by assumption)))
     rename_i nq;have M:=Z (BV J.out (Bm _ nq));go_wp2_with fail;go_roundw;case rel=>exact⟨i+1,by go_num,by omega,al.out,M.out⟩
     case measure=>simp[intOf];omega
    ·have F:decide (a=b)=false:=by
      rw[decide_eq_false_iff_not];intro e;subst e;exact L (hx.symm.trans hy)
     have am:=Z F;clear hx hy hF z F;have an:(x==y)=false:=(by rw[beq_eq_false_iff_ne];exact L);have aJ:(x !=y)=true:=(by rw[bne,an];rfl);go_wp2_with fail;go_quiet (fail);rename_i nq;have M:=Z (BV J.out (Bm _ nq));go_wp2_with fail;go_ret;exact⟨by rw[am.out];rfl,M.out⟩
   ·obtain rfl:i=a.length:=by omega
    have ag:decide ((a.length:Int)<(a.length:Int))=false:=Aq (by omega);have ac:decide (a=b)=true:=by
     rw[decide_eq_true_eq];have:=aa.out;rw[List.take_length,W.out,List.take_length]at this;exact this
    have ao:=Z ac;clear ac z;go_wp2_with fail;go_ret;exact⟨by rw[ao.out];rfl,J.out⟩
 ·have af:((a.length:Int) !=(b.length:Int))=true:=(by simp;omega);have F:decide (a=b)=false:=by
   exact Z1n
  rw[F];clear F;go_enter Tryz.func36,Tryz.ntmps36;exact Z1o
theorem Sb (n0:Nat) (a b:List Rd) (aa ab:Value) (w:World) (I:MY n0 w aa a) (J:MY n0 w ab b):
  Calls Tryz.prog 35 #[aa,ab] w fun e w'=>e=.returned (.bool (decide (a=b)))∧w.grownBy w' none:=by
 obtain⟨aw,ax,rfl,_,ay,_⟩:=I.now;obtain⟨az,aA,rfl,_,aB,_⟩:=J.now;have ah:=Z I;have ai:=Z J;have aC:(a.length:Int)≤9223372036854775807:=(by omega);have aD:(b.length:Int)≤9223372036854775807:=(by omega);clear I J;by_cases h:a.length=b.length
 ·have aj:((a.length:Int) !=(b.length:Int))=false:=(by rw[h];simp);have ac:=Z h;clear h;go_enter Tryz.func35,Tryz.ntmps35;go_wp2_with fail;go_loopw [13] (fun v wr=> ∃i:Nat,v=.int .i64 i∧i≤a.length∧a.take i=b.take i∧w.grownBy wr none) (fun v _=>a.length-(intOf v).toNat);case atStart=>exact⟨0,rfl,DM _,rfl,AB _ _⟩
  case round=>
   obtain⟨i,rfl,aE,ad,z⟩:=hrel;have ae:=Z ad;have K:=Z z;clear ad;by_cases L:i<a.length
   ·have ak:decide ((i:Int)<(a.length:Int))=true:=At (by omega);have af:i<b.length:=(by rw[←ac.out];exact L);have aF:(0:Int)≤i∧(i:Int)<(a.length:Int):=(by omega);have aG:(0:Int)≤i∧(i:Int)<(b.length:Int):=(by omega);have hF:=PF.AL (n0:=n0) z;obtain⟨aH,aI,al,aJ,am,M,N⟩:=(MY.pf ah.out hF).get i L;obtain⟨aK,aL,an,aM,ao,O,W⟩:=(MY.pf ai.out hF).get i af;obtain⟨x,hx⟩: ∃x,a[i]=x:=⟨_,rfl⟩;obtain⟨y,hy⟩: ∃y,b[i]=y:=⟨_,rfl⟩;rw[hx]at am M N;rw[hy]at ao O W;subst al an;by_cases G:x=y
    ·subst G;have ap:=Z (show a.take (i+1)=b.take (i+1) by rw[List.take_succ_eq_append_getElem L,List.take_succ_eq_append_getElem af,ae.out,hx,hy]);clear hx hy hF z;unfold sv at M O N W;go_wp2_with fail;go_quiet (fail);all_goals(try(rename_i nq;exact Ai rfl (by assumption)))
     rename_i nq;have X:=Z (BV K.out (Bm _ nq));go_wp2_with fail;go_roundw;case rel=>exact⟨i+1,by go_num,by omega,ap.out,X.out⟩
     case measure=>simp[intOf];omega
    ·have F:decide (a=b)=false:=by
      rw[decide_eq_false_iff_not];intro e;subst e;exact G (hx.symm.trans hy)
     have aq:=Z F;clear hx hy hF z F;have aN:(x.fd==y.fd&&(x.op==y.op&&x.wd==y.wd))=false:=by
      rw[Bool.eq_false_iff];intro ar;simp only[Bool.and_eq_true,beq_iff_eq]at ar;apply G;cases x;cases y;simp_all
     unfold sv at M O N W;go_wp2_with fail;refine Bf 8 (by kernel_rfl) (by kernel_rfl) ?_;simp only[List.take_succ_cons,List.take_zero,List.drop_succ_cons,List.drop_zero];repeat(go_big_quiet_step (fail))
     refine wpQuiet_nil ?_;rintro _ ⟨nq,rfl⟩;have X:=Z (BV K.out (Bm _ nq));go_wp2_with fail;all_goals(first|(exfalso;apply G;cases x;cases y;simp_all;done)|(go_ret;exact⟨by rw[aq.out];rfl,X.out⟩))
   ·obtain rfl:i=a.length:=by omega
    have ak:decide ((a.length:Int)<(a.length:Int))=false:=Aq (by omega);have ag:decide (a=b)=true:=by
     rw[decide_eq_true_eq];have:=ae.out;rw[List.take_length,ac.out,List.take_length]at this;exact this
    have au:=Z ag;clear ag z;go_wp2_with fail;go_ret;exact⟨by rw[au.out];rfl,K.out⟩
 ·have aj:((a.length:Int) !=(b.length:Int))=true:=(by simp;omega);have F:decide (a=b)=false:=by
   exact Z1n
  rw[F];clear F;go_enter Tryz.func35,Tryz.ntmps35;exact Z1o
end
section
open Go.RowKit Lx
theorem Px (n0:Nat) (a b:List (List (List UInt8))) (X aa:Value) (w:World) (K:E4 n0 w X a) (L:E4 n0 w aa b):
  Calls Tryz.prog 37 #[X,aa,.func (.func 34) #[] #[]] w fun e w'=>e=.returned (.bool (decide (a=b)))∧w.grownBy w' none:=by
 obtain⟨au,aw,rfl,ax⟩:=K.form;obtain⟨ay,az,rfl,aA⟩:=L.form;have ag:=Z K;have ah:=Z L;have aB:(a.length:Int)≤9223372036854775807:=(by omega);have aC:(b.length:Int)≤9223372036854775807:=(by omega);clear K L;by_cases F:a.length=b.length
 ·have ai:((a.length:Int) !=(b.length:Int))=false:=(by rw[F];simp);have ab:=Z F;clear F;go_enter Tryz.func37,Tryz.ntmps37;go_wp2_with fail;go_loopw [17] (fun v wr=> ∃i:Nat,v=.int .i64 i∧i≤a.length∧a.take i=b.take i∧w.grownBy wr none) (fun v _=>a.length-(intOf v).toNat);case atStart=>exact⟨0,rfl,DM _,rfl,AB _ _⟩
  case round=>
   obtain⟨i,rfl,aD,ac,G⟩:=hrel;have ad:=Z ac;have M:=Z G;clear ac;by_cases N:i<a.length
   ·have aj:decide ((i:Int)<(a.length:Int))=true:=At (by omega);have ae:i<b.length:=(by rw[←ab.out];exact N);have aE:(0:Int)≤i∧(i:Int)<(a.length:Int):=(by omega);have aF:(0:Int)≤i∧(i:Int)<(b.length:Int):=(by omega);have hF:=PF.AL (n0:=n0) G;obtain⟨aG,aH,u1,ak,aI,al,s1⟩:=(E4.pf ag.out hF).get i N;obtain⟨J,aJ,u2,am,aK,an,s2⟩:=(E4.pf ah.out hF).get i ae;obtain⟨aL,aM,rfl,_,_⟩:=s1.at_;obtain⟨aN,aO,rfl,_,_⟩:=s2.at_;have h:=Je n0 _ _ _ _ _ s1 s2;obtain⟨x,hx⟩: ∃x,a[i]=x:=⟨_,rfl⟩;obtain⟨y,hy⟩: ∃y,b[i]=y:=⟨_,rfl⟩;rw[hx]at al h;rw[hy]at an h;subst ak am;by_cases z:x=y
    ·rw[At z]at h;have O:=Z h;have ao:=Z (show a.take (i+1)=b.take (i+1) by rw[List.take_succ_eq_append_getElem N,List.take_succ_eq_append_getElem ae,ad.out,hx,hy,z]);clear h hx hy hF G s1 s2 z;go_wp2_with fail;refine O.out.mono ?_;rintro e ap ⟨rfl,J⟩;have W:=Z (BV M.out J);go_wp2_with fail;go_roundw;case rel=>exact⟨i+1,by go_num,by omega,ao.out,W.out⟩
     case measure=>simp[intOf];omega
    ·rw[Aq z]at h;have O:=Z h;have I:decide (a=b)=false:=by
      rw[decide_eq_false_iff_not];intro e;subst e;exact z (hx.symm.trans hy)
     have aq:=Z I;clear h hx hy hF G s1 s2 z I;go_wp2_with fail;refine O.out.mono ?_;rintro e ap ⟨rfl,J⟩;have W:=Z (BV M.out J);go_wp2_with fail;go_ret;exact⟨by rw[aq.out];rfl,W.out⟩
   ·obtain rfl:i=a.length:=by omega
    have aj:decide ((a.length:Int)<(a.length:Int))=false:=Aq (by omega);have af:decide (a=b)=true:=by
     rw[decide_eq_true_eq];have:=ad.out;rw[List.take_length,ab.out,List.take_length]at this;exact this
    have ar:=Z af;clear af G;go_wp2_with fail;go_ret;exact⟨by rw[ar.out];rfl,M.out⟩
 ·have ai:((a.length:Int) !=(b.length:Int))=true:=(by simp;omega);have I:decide (a=b)=false:=by
   rw[decide_eq_false_iff_not];intro e;rw[e]at F;exact F rfl
  rw[I];clear I;go_enter Tryz.func37,Tryz.ntmps37;go_wp2_with fail;go_ret;exact⟨rfl,AB _ _⟩
theorem Z1p {P:Prop} (h:P:=by
 clear aF;go_enter Tryz.func33,Tryz.ntmps33;go_upto_region 1 with(first|(refine BI _ aA aH (by exact rfl) aW.out aY.out ?_)|(refine BI _ aQ aJ (by exact rfl) aX.out aZ.out ?_));go_wp2_with fail;go_ret;exact⟨rfl,ax.out⟩):P:=h
theorem N1 (n0:Nat) (x y:V) (bt bu bv bw bx u1 u2 u3 u4 u5:Value) (w:World) (a2:FP n0 w bt bu bv bw bx x) (a3:FP n0 w u1 u2 u3 u4 u5 y):
  Calls Tryz.prog 33 #[.agg (AT x bt bu bv bw bx).toArray,.agg (AT y u1 u2 u3 u4 u5).toArray] w fun e w'=>e=.returned (.bool (decide (x=y)))∧w.grownBy w' none:=by
 obtain⟨a4,a5,a6,a7,a8,c3,a9,c4,a',ba,rfl,rfl,rfl,rfl,rfl⟩:=a2.C1;obtain⟨bb,bc,bd,be,bf,bg,bh,bi,bj,bk,rfl,rfl,rfl,rfl,rfl⟩:=a3.C1;obtain⟨J,K,I,aj,ak,al,am,an⟩:=x;obtain⟨aG,az,aw,ao,ap,aq,ar,au⟩:=y;have aP:=World.grownBy_alloc w (.cells #[.int .i64 J,.string ⟨K.toArray⟩,.bool I,.slice a4 aj.length a5,.slice a6 ak.length a7,.slice a8 al.length c3,.slice a9 am.length c4,.slice a' an.length ba] 32) none;have bl:=Y.new w 32 #[.int .i64 J,.string ⟨K.toArray⟩,.bool I,.slice a4 aj.length a5,.slice a6 ak.length a7,.slice a8 al.length c3,.slice a9 am.length c4,.slice a' an.length ba];obtain⟨aA,aU⟩: ∃bm,w.alloc (.cells #[.int .i64 J,.string ⟨K.toArray⟩,.bool I,.slice a4 aj.length a5,.slice a6 ak.length a7,.slice a8 al.length c3,.slice a9 am.length c4,.slice a' an.length ba] 32)=bm:=⟨_,rfl⟩;rw[aU]at aP;obtain⟨aH,bn⟩: ∃aH,w.heap.size=aH:=⟨_,rfl⟩;rw[aU,bn]at bl;have aI:=World.grownBy_alloc aA (.cells #[.int .i64 aG,.string ⟨az.toArray⟩,.bool aw,.slice bb ao.length bc,.slice bd ap.length be,.slice bf aq.length bg,.slice bh ar.length bi,.slice bj au.length bk] 32) none;have bo:=Y.new aA 32 #[.int .i64 aG,.string ⟨az.toArray⟩,.bool aw,.slice bb ao.length bc,.slice bd ap.length be,.slice bf aq.length bg,.slice bh ar.length bi,.slice bj au.length bk];obtain⟨aQ,aV⟩: ∃bm,aA.alloc (.cells #[.int .i64 aG,.string ⟨az.toArray⟩,.bool aw,.slice bb ao.length bc,.slice bd ap.length be,.slice bf aq.length bg,.slice bh ar.length bi,.slice bj au.length bk] 32)=bm:=⟨_,rfl⟩;rw[aV]at aI;obtain⟨aJ,bp⟩: ∃aJ,aA.heap.size=aJ:=⟨_,rfl⟩;rw[aV,bp]at bo;have aW:=Z aU;have aX:=Z aV;have aY:=Z bn;have aZ:=Z bp;have ax:=Z (BV aP aI);have ag:=Z (Y.grown bl aI (by simp));have ah:=Z bo;have aR:=Z (FP.pf a2 (PF.AL (n0:=n0) (BV aP aI)));have aS:=Z (FP.pf a3 (PF.AL (n0:=n0) (BV aP aI)));have a0:=Z (AB aQ none);have bK:=Y.cell ag.out 0;have bL:=Y.cell ah.out 0;have bM:=Y.cell ag.out 1;have bN:=Y.cell ah.out 1;have bO:=Y.cell ag.out 2;have bP:=Y.cell ah.out 2;have L:=Y.cell ag.out 3;have M:=Y.cell ah.out 3;have N:=Y.cell ag.out 4;have O:=Y.cell ah.out 4;have W:=Y.cell ag.out 5;have X:=Y.cell ah.out 5;have aa:=Y.cell ag.out 6;have ab:=Y.cell ah.out 6;have ac:=Y.cell ag.out 7;have ad:=Y.cell ah.out 7;have ae:=Y.lt ag.out;have af:=Y.lt ah.out;unfold AT sv;clear aP aI bl bo aU aV bn bp a2 a3;by_cases bq:J=aG
 ·subst bq;by_cases br:K=az
  ·subst br;by_cases bs:I=aw
   ·subst bs;have a1:(I==I)=true:=(by cases I<;>rfl);go_enter Tryz.func33,Tryz.ntmps33;go_upto_region 1 with(first|(refine BI _ aA aH (by exact rfl) aW.out aY.out ?_)|(refine BI _ aQ aJ (by exact rfl) aX.out aZ.out ?_));have F:=Je n0 _ _ _ _ _ (CQ.pf aR.out.AY (PF.AL (n0:=n0) a0.out)) (CQ.pf aS.out.AY (PF.AL (n0:=n0) a0.out));by_cases aK:aj=ao
    ·rw[At aK]at F;have G:=Z F;have bA:=Z aK;clear F aK;go_wp2_with fail;refine G.out.mono ?_;rintro e w0 ⟨rfl,gk⟩;have aB:=Z (BV a0.out gk);clear gk G L N W aa ac M O X ab ad ae af;have h:=Y.grown ag.out aB.out (by simp);have z:=Y.grown ah.out aB.out (by simp);have L:=Y.cell h 3;have M:=Y.cell z 3;have N:=Y.cell h 4;have O:=Y.cell z 4;have W:=Y.cell h 5;have X:=Y.cell z 5;have aa:=Y.cell h 6;have ab:=Y.cell z 6;have ac:=Y.cell h 7;have ad:=Y.cell z 7;have ae:=Y.lt h;have af:=Y.lt z;clear h z;have F:=Je n0 _ _ _ _ _ (CQ.pf aR.out.words (PF.AL (n0:=n0) aB.out)) (CQ.pf aS.out.words (PF.AL (n0:=n0) aB.out));by_cases aL:ak=ap
     ·rw[At aL]at F;have G:=Z F;have bB:=Z aL;clear F aL;go_wp2_with fail;refine G.out.mono ?_;rintro e bC ⟨rfl,gk⟩;have aC:=Z (BV aB.out gk);clear gk G L N W aa ac M O X ab ad ae af;have h:=Y.grown ag.out aC.out (by simp);have z:=Y.grown ah.out aC.out (by simp);have L:=Y.cell h 3;have M:=Y.cell z 3;have N:=Y.cell h 4;have O:=Y.cell z 4;have W:=Y.cell h 5;have X:=Y.cell z 5;have aa:=Y.cell h 6;have ab:=Y.cell z 6;have ac:=Y.cell h 7;have ad:=Y.cell z 7;have ae:=Y.lt h;have af:=Y.lt z;clear h z;have F:=Sb n0 _ _ _ _ _ (MY.pf aR.out.DB (PF.AL (n0:=n0) aC.out)) (MY.pf aS.out.DB (PF.AL (n0:=n0) aC.out));by_cases aM:al=aq
      ·rw[At aM]at F;have G:=Z F;have bD:=Z aM;clear F aM;go_wp2_with fail;refine G.out.mono ?_;rintro e bE ⟨rfl,gk⟩;have aD:=Z (BV aC.out gk);clear gk G L N W aa ac M O X ab ad ae af;have h:=Y.grown ag.out aD.out (by simp);have z:=Y.grown ah.out aD.out (by simp);have L:=Y.cell h 3;have M:=Y.cell z 3;have N:=Y.cell h 4;have O:=Y.cell z 4;have W:=Y.cell h 5;have X:=Y.cell z 5;have aa:=Y.cell h 6;have ab:=Y.cell z 6;have ac:=Y.cell h 7;have ad:=Y.cell z 7;have ae:=Y.lt h;have af:=Y.lt z;clear h z;have F:=Pf n0 _ _ _ _ _ (E0.pf aR.out.kids (PF.AL (n0:=n0) aD.out)) (E0.pf aS.out.kids (PF.AL (n0:=n0) aD.out));by_cases aN:an=au
       ·rw[At aN]at F;have G:=Z F;have bF:=Z aN;clear F aN;go_wp2_with fail;refine G.out.mono ?_;rintro e bG ⟨rfl,gk⟩;have aE:=Z (BV aD.out gk);clear gk G L N W aa ac M O X ab ad ae af;have h:=Y.grown ag.out aE.out (by simp);have z:=Y.grown ah.out aE.out (by simp);have L:=Y.cell h 3;have M:=Y.cell z 3;have N:=Y.cell h 4;have O:=Y.cell z 4;have W:=Y.cell h 5;have X:=Y.cell z 5;have aa:=Y.cell h 6;have ab:=Y.cell z 6;have ac:=Y.cell h 7;have ad:=Y.cell z 7;have ae:=Y.lt h;have af:=Y.lt z;clear h z;have F:=Px n0 _ _ _ _ _ (E4.pf aR.out.AS (PF.AL (n0:=n0) aE.out)) (E4.pf aS.out.AS (PF.AL (n0:=n0) aE.out));by_cases aO:am=ar
        ·rw[At aO]at F;have G:=Z F;have bH:=Z aO;clear F aO;go_wp2_with fail;refine G.out.mono ?_;rintro e bI ⟨rfl,gk⟩;have aT:=Z (BV aE.out gk);clear gk G L N W aa ac M O X ab ad ae af;have h:=Y.grown ag.out aT.out (by simp);have z:=Y.grown ah.out aT.out (by simp);have L:=Y.cell h 3;have M:=Y.cell z 3;have N:=Y.cell h 4;have O:=Y.cell z 4;have W:=Y.cell h 5;have X:=Y.cell z 5;have aa:=Y.cell h 6;have ab:=Y.cell z 6;have ac:=Y.cell h 7;have ad:=Y.cell z 7;have ae:=Y.lt h;have af:=Y.lt z;clear h z;have bz:decide ((⟨J,K,I,aj,ak,al,am,an⟩:V)=⟨J,K,I,ao,ap,aq,ar,au⟩)=true:=(by rw[bA.out,bB.out,bD.out,bF.out,bH.out];exact At rfl);have bJ:=Z bz;clear bz;go_wp2_with fail;go_ret;exact⟨by rw[bJ.out];rfl,BV ax.out aT.out⟩
        ·rw[Aq aO]at F;have G:=Z F;have ai:decide ((⟨J,K,I,aj,ak,al,am,an⟩:V)=⟨J,K,I,ao,ap,aq,ar,au⟩)=false:=Aq (fun e=>aO (congrArg V.AS e));have ay:=Z ai;clear F ai aO;go_wp2_with fail;refine G.out.mono ?_;rintro e bI ⟨rfl,gk⟩;have aT:=Z (BV aE.out gk);clear gk G L N W aa ac M O X ab ad ae af;go_wp2_with fail;go_ret;exact⟨by rw[ay.out];rfl,BV ax.out aT.out⟩
       ·rw[Aq aN]at F;have G:=Z F;have ai:decide ((⟨J,K,I,aj,ak,al,am,an⟩:V)=⟨J,K,I,ao,ap,aq,ar,au⟩)=false:=Aq (fun e=>aN (congrArg V.kids e));have ay:=Z ai;clear F ai aN;go_wp2_with fail;refine G.out.mono ?_;rintro e bG ⟨rfl,gk⟩;have aE:=Z (BV aD.out gk);clear gk G L N W aa ac M O X ab ad ae af;go_wp2_with fail;go_ret;exact⟨by rw[ay.out];rfl,BV ax.out aE.out⟩
      ·rw[Aq aM]at F;have G:=Z F;have ai:decide ((⟨J,K,I,aj,ak,al,am,an⟩:V)=⟨J,K,I,ao,ap,aq,ar,au⟩)=false:=Aq (fun e=>aM (congrArg V.AK e));have ay:=Z ai;clear F ai aM;go_wp2_with fail;refine G.out.mono ?_;rintro e bE ⟨rfl,gk⟩;have aD:=Z (BV aC.out gk);clear gk G L N W aa ac M O X ab ad ae af;go_wp2_with fail;go_ret;exact⟨by rw[ay.out];rfl,BV ax.out aD.out⟩
     ·rw[Aq aL]at F;have G:=Z F;have ai:decide ((⟨J,K,I,aj,ak,al,am,an⟩:V)=⟨J,K,I,ao,ap,aq,ar,au⟩)=false:=Aq (fun e=>aL (congrArg V.words e));have ay:=Z ai;clear F ai aL;go_wp2_with fail;refine G.out.mono ?_;rintro e bC ⟨rfl,gk⟩;have aC:=Z (BV aB.out gk);clear gk G L N W aa ac M O X ab ad ae af;go_wp2_with fail;go_ret;exact⟨by rw[ay.out];rfl,BV ax.out aC.out⟩
    ·rw[Aq aK]at F;have G:=Z F;have ai:decide ((⟨J,K,I,aj,ak,al,am,an⟩:V)=⟨J,K,I,ao,ap,aq,ar,au⟩)=false:=Aq (fun e=>aK (congrArg V.AY e));have ay:=Z ai;clear F ai aK;go_wp2_with fail;refine G.out.mono ?_;rintro e w0 ⟨rfl,gk⟩;have aB:=Z (BV a0.out gk);clear gk G L N W aa ac M O X ab ad ae af;go_wp2_with fail;go_ret;exact⟨by rw[ay.out];rfl,BV ax.out aB.out⟩
   ·have aF:decide ((⟨J,K,I,aj,ak,al,am,an⟩:V)=⟨J,K,aw,ao,ap,aq,ar,au⟩)=false:=Aq (fun e=>bs (congrArg V.A5 e));rw[aF];have a1:(I==aw)=false:=(by cases I<;>cases aw<;>first|rfl|exact Ai rfl bs);exact Z1p
  ·have aF:decide ((⟨J,K,I,aj,ak,al,am,an⟩:V)=⟨J,az,aw,ao,ap,aq,ar,au⟩)=false:=Aq (fun e=>br (congrArg V.name e));rw[aF];have a1:(K==az)=false:=(by rw[beq_eq_false_iff_ne];exact br);have s1:((ByteArray.mk K.toArray)==⟨az.toArray⟩)=false:=(by rw[IA];exact a1);exact Z1p
 ·have aF:decide ((⟨J,K,I,aj,ak,al,am,an⟩:V)=⟨aG,az,aw,ao,ap,aq,ar,au⟩)=false:=Aq (fun e=>bq (congrArg V.kind e));rw[aF];have a1:(J==aG)=false:=(by rw[beq_eq_false_iff_ne];exact bq);exact Z1p
end
section
open Go.RowKit Lx
theorem DZ.form {n0:Nat} {w:World} {v:Value} {l:List V} (h:DZ n0 w v l): ∃a z,v=.slice a l.length z∧l.length≤9223372036854775807:=by
 obtain⟨I,h,_⟩:=h;obtain⟨a,z,F,_,G,_⟩:=h.now;exact⟨a,z,F,G⟩
theorem QA (n0:Nat) (a b:List V) (bj bk:Value) (w:World) (an:DZ n0 w bj a) (ao:DZ n0 w bk b):
  Calls Tryz.prog 32 #[bj,bk,.func (.func 33) #[] #[]] w fun e w'=>e=.returned (.bool (decide (a=b)))∧w.grownBy w' none:=by
 obtain⟨bT,bU,rfl,bV⟩:=an.form;obtain⟨bW,bX,rfl,bY⟩:=ao.form;have bI:=Z an;have bJ:=Z ao;have bZ:(a.length:Int)≤9223372036854775807:=(by omega);have b0:(b.length:Int)≤9223372036854775807:=(by omega);clear an ao;by_cases L:a.length=b.length
 ·have bK:((a.length:Int) !=(b.length:Int))=false:=(by rw[L];simp);have bl:=Z L;clear L;go_enter Tryz.func32,Tryz.ntmps32;go_wp2_with fail;go_loopw [17] (fun v wr=> ∃i:Nat,v=.int .i64 i∧i≤a.length∧a.take i=b.take i∧w.grownBy wr none) (fun v _=>a.length-(intOf v).toNat);case atStart=>exact⟨0,rfl,DM _,rfl,AB _ _⟩
  case round=>
   obtain⟨i,rfl,b1,bm,O⟩:=hrel;have bn:=Z bm;have ap:=Z O;clear bm;by_cases aq:i<a.length
   ·have bL:decide ((i:Int)<(a.length:Int))=true:=At (by omega);have bo:i<b.length:=(by rw[←bl.out];exact aq);have b2:(0:Int)≤i∧(i:Int)<(a.length:Int):=(by omega);have b3:(0:Int)≤i∧(i:Int)<(b.length:Int):=(by omega);have hF:=PF.AL (n0:=n0) O;obtain⟨b4,b5,b6,b7,b8,b9,b',ca,ar,_,_,bp,W,au,X,aw,ax,ay,az,aA,aB⟩:=(DZ.pf bI.out hF).at_ i aq;injection ar with ar _ bM;subst ar bM;obtain⟨aa,cb,cc,cd,ce,z3,cf,cg,aC,_,_,G,ab,ac,M,ad,ae,af,ag,ah,ai⟩:=(DZ.pf bJ.out hF).at_ i bo;injection aC with aC _ bN;subst aC bN;obtain⟨aD,aE,aF,aG,aH,c3,aI,c4,aJ,aK,rfl,rfl,rfl,rfl,rfl⟩:=W.C1;obtain⟨aL,aM,aN,aO,aP,aQ,aR,aS,aT,aU,rfl,rfl,rfl,rfl,rfl⟩:=ab.C1;obtain⟨x,hx⟩: ∃x,a[i]=x:=⟨_,rfl⟩;obtain⟨y,hy⟩: ∃y,b[i]=y:=⟨_,rfl⟩;rw[hx]at W au X aw ax ay az aA aB;rw[hy]at ab ac M ad ae af ag ah ai;unfold sv at X M;have F:=World.grownBy_alloc wr (.cells #[.int .i64 x.kind,.string ⟨x.name.toArray⟩,.bool x.A5,.slice aD x.AY.length aE,.slice aF x.words.length aG,.slice aH x.AK.length c3,.slice aI x.AS.length c4,.slice aJ x.kids.length aK] 32) none;have aV:=Y.new wr 32 #[.int .i64 x.kind,.string ⟨x.name.toArray⟩,.bool x.A5,.slice aD x.AY.length aE,.slice aF x.words.length aG,.slice aH x.AK.length c3,.slice aI x.AS.length c4,.slice aJ x.kids.length aK];obtain⟨aj,ak⟩: ∃aW,wr.alloc (.cells #[.int .i64 x.kind,.string ⟨x.name.toArray⟩,.bool x.A5,.slice aD x.AY.length aE,.slice aF x.words.length aG,.slice aH x.AK.length c3,.slice aI x.AS.length c4,.slice aJ x.kids.length aK] 32)=aW:=⟨_,rfl⟩;rw[ak]at F;obtain⟨bq,aX⟩: ∃bq,wr.heap.size=bq:=⟨_,rfl⟩;rw[ak,aX]at aV;have br:=AH F G ac;have bs:=AH F G M;have bt:=AH F G ad;have bu:=AH F G ae;have bv:=AH F G af;have bw:=AH F G ag;have bx:=AH F G ah;have bz:=AH F G ai;have bA:=DP G F.size;have J:=World.grownBy_alloc aj (.cells #[.int .i64 y.kind,.string ⟨y.name.toArray⟩,.bool y.A5,.slice aL y.AY.length aM,.slice aN y.words.length aO,.slice aP y.AK.length aQ,.slice aR y.AS.length aS,.slice aT y.kids.length aU] 32) none;have aY:=Y.new aj 32 #[.int .i64 y.kind,.string ⟨y.name.toArray⟩,.bool y.A5,.slice aL y.AY.length aM,.slice aN y.words.length aO,.slice aP y.AK.length aQ,.slice aR y.AS.length aS,.slice aT y.kids.length aU];obtain⟨bO,al⟩: ∃aW,aj.alloc (.cells #[.int .i64 y.kind,.string ⟨y.name.toArray⟩,.bool y.A5,.slice aL y.AY.length aM,.slice aN y.words.length aO,.slice aP y.AK.length aQ,.slice aR y.AS.length aS,.slice aT y.kids.length aU] 32)=aW:=⟨_,rfl⟩;rw[al]at J;obtain⟨bB,aZ⟩: ∃bB,aj.heap.size=bB:=⟨_,rfl⟩;rw[al,aZ]at aY;have bC:=Z ak;have bD:=Z al;have bE:=Z aX;have bF:=Z aZ;have bG:=Z (BV F J);have h:=Z (Y.grown aV J (by simp));have z:=Z aY;have I:=N1 n0 x y _ _ _ _ _ _ _ _ _ _ bO (FP.pf W (PF.AL (n0:=n0) (BV F J))) (FP.pf ab (PF.AL (n0:=n0) (BV F J)));unfold AT sv at I;have am:=Z (A8 hx hy);clear F J aV aY ak al aX aZ hx hy hF O W ab;by_cases K:x=y
    ·rw[At K]at I;have a0:=Z I;have bP:=Z (show a.take (i+1)=b.take (i+1) by rw[List.take_succ_eq_append_getElem aq,List.take_succ_eq_append_getElem bo,bn.out,am.out.1,am.out.2,K]);clear I K;go_upto_region 6 with(fail);rw[bC.out,bE.out];clear au X aw ax ay az aA aB ac M ad ae af ag ah ai bp G;go_upto_region 7 with(fail);rw[bD.out,bF.out];clear br bs bt bu bv bw bx bz bA;have a1:=Y.cell h.out 0;have a2:=Y.cell z.out 0;have a3:=Y.cell h.out 1;have a4:=Y.cell z.out 1;have a5:=Y.cell h.out 2;have a6:=Y.cell z.out 2;have a7:=Y.cell h.out 3;have a8:=Y.cell z.out 3;have a9:=Y.cell h.out 4;have a':=Y.cell z.out 4;have ba:=Y.cell h.out 5;have bb:=Y.cell z.out 5;have bc:=Y.cell h.out 6;have bd:=Y.cell z.out 6;have be:=Y.cell h.out 7;have bf:=Y.cell z.out 7;have bg:=Y.lt h.out;have bh:=Y.lt z.out;go_wp2_with fail;refine a0.out.mono ?_;rintro e bQ ⟨rfl,aa⟩;have bi:=Z (BV (BV ap.out bG.out) aa);clear a1 a3 a5 a7 a9 ba bc be a2 a4 a6 a8 a' bb bd bf bg bh;go_wp2_with fail;go_roundw;case rel=>exact⟨i+1,by go_num,by omega,bP.out,bi.out⟩
     case measure=>simp[intOf];omega
    ·rw[Aq K]at I;have a0:=Z I;have N:decide (a=b)=false:=by
      rw[decide_eq_false_iff_not];intro e;subst e;exact K (am.out.1.symm.trans am.out.2)
     have bR:=Z N;clear I K N;go_upto_region 6 with(fail);rw[bC.out,bE.out];clear au X aw ax ay az aA aB ac M ad ae af ag ah ai bp G;go_upto_region 7 with(fail);rw[bD.out,bF.out];clear br bs bt bu bv bw bx bz bA;have a1:=Y.cell h.out 0;have a2:=Y.cell z.out 0;have a3:=Y.cell h.out 1;have a4:=Y.cell z.out 1;have a5:=Y.cell h.out 2;have a6:=Y.cell z.out 2;have a7:=Y.cell h.out 3;have a8:=Y.cell z.out 3;have a9:=Y.cell h.out 4;have a':=Y.cell z.out 4;have ba:=Y.cell h.out 5;have bb:=Y.cell z.out 5;have bc:=Y.cell h.out 6;have bd:=Y.cell z.out 6;have be:=Y.cell h.out 7;have bf:=Y.cell z.out 7;have bg:=Y.lt h.out;have bh:=Y.lt z.out;go_wp2_with fail;refine a0.out.mono ?_;rintro e bQ ⟨rfl,aa⟩;have bi:=Z (BV (BV ap.out bG.out) aa);clear a1 a3 a5 a7 a9 ba bc be a2 a4 a6 a8 a' bb bd bf bg bh;go_wp2_with fail;go_ret;exact⟨by rw[bR.out];rfl,bi.out⟩
   ·obtain rfl:i=a.length:=by omega
    have bL:decide ((a.length:Int)<(a.length:Int))=false:=Aq (by omega);have bH:decide (a=b)=true:=by
     rw[decide_eq_true_eq];have:=bn.out;rw[List.take_length,bl.out,List.take_length]at this;exact this
    have bS:=Z bH;clear bH O;go_wp2_with fail;go_ret;exact⟨by rw[bS.out];rfl,ap.out⟩
 ·have bK:((a.length:Int) !=(b.length:Int))=true:=(by simp;omega);have N:decide (a=b)=false:=by
   rw[decide_eq_false_iff_not];intro e;rw[e]at L;exact L rfl
  rw[N];clear N;go_enter Tryz.func32,Tryz.ntmps32;go_wp2_with fail;go_ret;exact⟨rfl,AB _ _⟩
theorem QU (n0:Nat) (a b:List V) (h z:Value) (w:World) (F:DZ n0 w h a) (G:DZ n0 w z b):
  Calls Tryz.prog 13 #[h,z] w fun e w'=>e=.returned (.bool (decide (a=b)))∧w.grownBy w' none:=by
 have I:=Z (QA n0 a b h z w F G);clear F G;go_enter Tryz.func13,Tryz.ntmps13;go_wp2_with fail;refine I.out.mono ?_;rintro e K ⟨rfl,J⟩;go_wp2_with fail;go_ret;exact⟨rfl,J⟩
end
end Go.Proofs.YtdhfhphbkfgamaaGreat
