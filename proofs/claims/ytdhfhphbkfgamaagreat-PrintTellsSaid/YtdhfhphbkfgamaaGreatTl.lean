/- A part. -/
import Derived.Test.YtdhfhphbkfgamaaGreatTk
set_option maxRecDepth 100000
set_option linter.all false
set_option maxHeartbeats 0
namespace Go.Proofs.YtdhfhphbkfgamaaGreat
open Go.RowKit Lx Proofs.Tryz
theorem BY{a b c:World}(h:a.grownBy b none)(k:b.grownBy c none):a.grownBy c none:=
 Az.grown (Az.trans (Az.AL h (fun k hk=>by cases hk):Az EH a b) (Az.AL k (fun k hk=>by cases hk):Az EH b c) (fun _ _ h=>h)) (fun _ _ h=>h)
theorem Ju(n0:Nat)(a b:List (List UInt8))(W X:Value)(w:World)(I:CW n0 w W a)(J:CW n0 w X b):
  Calls prog 34 #[W,X] w fun e w'=>e=.returned (.bool (decide (a=b)))/\w.grownBy w' none:=by
 obtain⟨ap,aq,rfl,_,ar,_⟩:=I.now;obtain⟨au,aw,rfl,_,ax,_⟩:=J.now;have af:=Z I;have ag:=Z J;have ay:(a.length:Int)<=9223372036854775807:=(by omega);have az:(b.length:Int)<=9223372036854775807:=(by omega);clear I J;by_cases h:a.length=b.length
 ·have ah:((a.length:Int) !=(b.length:Int))=false:=(by rw[h];simp);have aa:=Z h;clear h;go_enter func34,ntmps34;go_wp2_with fail;go_loopw [13] (fun v wr=> ∃i:Nat,v=.int .i64 i/\i<=a.length/\a.take i=b.take i/\w.grownBy wr none) (fun v _=>a.length-(intOf v).toNat);case atStart=>exact⟨0,rfl,DD _,rfl,AB _ _⟩
  case round=>
   obtain⟨i,rfl,aA,ab,z⟩:=hrel;have ac:=Z ab;have K:=Z z;clear ab;by_cases L:i<a.length
   ·have ai:decide ((i:Int)<(a.length:Int))=true:=Au (by omega);have ad:i<b.length:=(by rw[<-aa.out];exact L);have aB:(0:Int)<=i/\(i:Int)<(a.length:Int):=(by omega);have aC:(0:Int)<=i/\(i:Int)<(b.length:Int):=(by omega);have hF:=PF.AL (n0:=n0) z;obtain⟨aD,aE,aj,aF,M⟩:=(CW.pf af.out hF).get i L;obtain⟨aG,aH,ak,aI,N⟩:=(CW.pf ag.out hF).get i ad;obtain⟨x,hx⟩:=U (a[i]);obtain⟨y,hy⟩:=U (b[i]);rw[hx]at M;rw[hy]at N;subst aj ak;by_cases F:x=y
    ·subst F;have al:=Z (show a.take (i+1)=b.take (i+1) by rw[Du L,Du ad,ac.out,hx,hy]);clear hx hy hF z;unfold sv at M N;go_wp2_with fail;go_quiet (fail);all_goals(try(rename_i nq;exact Aj rfl (by assumption)))
     rename_i nq;have O:=Z (BY K.out (Bp _ nq));go_wp2_with fail;go_roundw;case rel=>exact⟨i+1,by go_num,by omega,al.out,O.out⟩
     case measure=>simp[intOf];omega
    ·have G:decide (a=b)=false:=by
      rw[Ex];intro e;subst e;exact F (hx.symm.trans hy)
     have am:=Z G;clear hx hy hF z G;have an:((ByteArray.mk x.toArray)==⟨y.toArray⟩)=false:=(by rw[Ii,A4];exact F);have aJ:((ByteArray.mk x.toArray) !=⟨y.toArray⟩)=true:=(by rw[bne,an];rfl);have aK:(x==y)=false:=(by rw[A4];exact F);have aL:¬(ByteArray.mk x.toArray=⟨y.toArray⟩):=fun e=>F (OF.1 e)
     unfold sv at M N;go_wp2_with fail;go_quiet (fail);rename_i nq;have O:=Z (BY K.out (Bp _ nq));go_wp2_with fail;go_ret;exact⟨by rw[am.out];rfl,O.out⟩
   ·obtain rfl:i=a.length:=by omega
    have ai:decide ((a.length:Int)<(a.length:Int))=false:=As (by omega);have ae:decide (a=b)=true:=by
     rw[Di];have:=ac.out;rw[Dw,aa.out,Dw]at this;exact this
    have ao:=Z ae;clear ae z;go_wp2_with fail;go_ret;exact⟨by rw[ao.out];rfl,K.out⟩
 ·have ah:((a.length:Int) !=(b.length:Int))=true:=(by simp;omega);have G:decide (a=b)=false:=by
   rw[Ex];intro e;rw[e]at h;exact h rfl
  rw[G];clear G;go_enter func34,ntmps34;go_wp2_with fail;go_ret;exact⟨rfl,AB _ _⟩
theorem Pz(n0:Nat)(a b:List Int)(N O:Value)(w:World)(G:E9 n0 w N a)(I:E9 n0 w O b):
  Calls prog 36 #[N,O] w fun e w'=>e=.returned (.bool (decide (a=b)))/\w.grownBy w' none:=by
 obtain⟨ap,aq,rfl,_,ar,_⟩:=G.now;obtain⟨au,aw,rfl,_,ax,_⟩:=I.now;have ad:=Z G;have ae:=Z I;have ay:(a.length:Int)<=9223372036854775807:=(by omega);have az:(b.length:Int)<=9223372036854775807:=(by omega);clear G I;by_cases h:a.length=b.length
 ·have af:((a.length:Int) !=(b.length:Int))=false:=(by rw[h];simp);have W:=Z h;clear h;go_enter func36,ntmps36;go_wp2_with fail;go_loopw [13] (fun v wr=> ∃i:Nat,v=.int .i64 i/\i<=a.length/\a.take i=b.take i/\w.grownBy wr none) (fun v _=>a.length-(intOf v).toNat);case atStart=>exact⟨0,rfl,DD _,rfl,AB _ _⟩
  case round=>
   obtain⟨i,rfl,aA,X,z⟩:=hrel;have aa:=Z X;have J:=Z z;clear X;by_cases K:i<a.length
   ·have ag:decide ((i:Int)<(a.length:Int))=true:=Au (by omega);have ab:i<b.length:=(by rw[<-W.out];exact K);have aB:(0:Int)<=i/\(i:Int)<(a.length:Int):=(by omega);have aC:(0:Int)<=i/\(i:Int)<(b.length:Int):=(by omega);have hF:=PF.AL (n0:=n0) z;obtain⟨aD,aE,ah,aF,ai⟩:=(E9.pf ad.out hF).get i K;obtain⟨aG,aH,aj,aI,ak⟩:=(E9.pf ae.out hF).get i ab;obtain⟨x,hx⟩:=U (a[i]);obtain⟨y,hy⟩:=U (b[i]);rw[hx]at ai;rw[hy]at ak;subst ah aj;by_cases L:x=y
    ·subst L;have al:=Z (show a.take (i+1)=b.take (i+1) by rw[Du K,Du ab,aa.out,hx,hy]);clear hx hy hF z;go_wp2_with fail;go_quiet (fail);all_goals(try(rename_i nq;exact Aj rfl (by assumption)))
     rename_i nq;have M:=Z (BY J.out (Bp _ nq));go_wp2_with fail;go_roundw;case rel=>exact⟨i+1,by go_num,by omega,al.out,M.out⟩
     case measure=>simp[intOf];omega
    ·have F:decide (a=b)=false:=by
      rw[Ex];intro e;subst e;exact L (hx.symm.trans hy)
     have am:=Z F;clear hx hy hF z F;have an:(x==y)=false:=(by rw[A4];exact L);have aJ:(x !=y)=true:=(by rw[bne,an];rfl);go_wp2_with fail;go_quiet (fail);rename_i nq;have M:=Z (BY J.out (Bp _ nq));go_wp2_with fail;go_ret;exact⟨by rw[am.out];rfl,M.out⟩
   ·obtain rfl:i=a.length:=by omega
    have ag:decide ((a.length:Int)<(a.length:Int))=false:=As (by omega);have ac:decide (a=b)=true:=by
     rw[Di];have:=aa.out;rw[Dw,W.out,Dw]at this;exact this
    have ao:=Z ac;clear ac z;go_wp2_with fail;go_ret;exact⟨by rw[ao.out];rfl,J.out⟩
 ·have af:((a.length:Int) !=(b.length:Int))=true:=(by simp;omega);have F:decide (a=b)=false:=by
   rw[Ex];intro e;rw[e]at h;exact h rfl
  rw[F];clear F;go_enter func36,ntmps36;go_wp2_with fail;go_ret;exact⟨rfl,AB _ _⟩
theorem Sy(n0:Nat)(a b:List Rd)(aa ab:Value)(w:World)(I:Mu n0 w aa a)(J:Mu n0 w ab b):
  Calls prog 35 #[aa,ab] w fun e w'=>e=.returned (.bool (decide (a=b)))/\w.grownBy w' none:=by
 obtain⟨aw,ax,rfl,_,ay,_⟩:=I.now;obtain⟨az,aA,rfl,_,aB,_⟩:=J.now;have ah:=Z I;have ai:=Z J;have aC:(a.length:Int)<=9223372036854775807:=(by omega);have aD:(b.length:Int)<=9223372036854775807:=(by omega);clear I J;by_cases h:a.length=b.length
 ·have aj:((a.length:Int) !=(b.length:Int))=false:=(by rw[h];simp);have ac:=Z h;clear h;go_enter func35,ntmps35;go_wp2_with fail;go_loopw [13] (fun v wr=> ∃i:Nat,v=.int .i64 i/\i<=a.length/\a.take i=b.take i/\w.grownBy wr none) (fun v _=>a.length-(intOf v).toNat);case atStart=>exact⟨0,rfl,DD _,rfl,AB _ _⟩
  case round=>
   obtain⟨i,rfl,aE,ad,z⟩:=hrel;have ae:=Z ad;have K:=Z z;clear ad;by_cases L:i<a.length
   ·have ak:decide ((i:Int)<(a.length:Int))=true:=Au (by omega);have af:i<b.length:=(by rw[<-ac.out];exact L);have aF:(0:Int)<=i/\(i:Int)<(a.length:Int):=(by omega);have aG:(0:Int)<=i/\(i:Int)<(b.length:Int):=(by omega);have hF:=PF.AL (n0:=n0) z;obtain⟨aH,aI,al,aJ,am,M,N⟩:=(Mu.pf ah.out hF).get i L;obtain⟨aK,aL,an,aM,ao,O,W⟩:=(Mu.pf ai.out hF).get i af;obtain⟨x,hx⟩:=U (a[i]);obtain⟨y,hy⟩:=U (b[i]);rw[hx]at am M N;rw[hy]at ao O W;subst al an;by_cases G:x=y
    ·subst G;have ap:=Z (show a.take (i+1)=b.take (i+1) by rw[Du L,Du af,ae.out,hx,hy]);clear hx hy hF z;unfold sv at M O N W;go_wp2_with fail;go_quiet (fail);all_goals(try(rename_i nq;exact Aj rfl (by assumption)))
     rename_i nq;have X:=Z (BY K.out (Bp _ nq));go_wp2_with fail;go_roundw;case rel=>exact⟨i+1,by go_num,by omega,ap.out,X.out⟩
     case measure=>simp[intOf];omega
    ·have F:decide (a=b)=false:=by
      rw[Ex];intro e;subst e;exact G (hx.symm.trans hy)
     have aq:=Z F;clear hx hy hF z F;have aN:(x.fd==y.fd&&(x.op==y.op&&x.wd==y.wd))=false:=by
      rw[Bool.eq_false_iff];intro ar;simp only[CN,DQ]at ar;apply G;cases x;cases y;simp_all
     unfold sv at M O N W;go_wp2_with fail;refine Bh 8 (by kernel_rfl) (by kernel_rfl) ?_;simp only[List.take_succ_cons,List.take_zero,List.drop_succ_cons,List.drop_zero];repeat(go_big_quiet_step (fail))
     refine wpQuiet_nil ?_;rintro _ ⟨nq,rfl⟩;have X:=Z (BY K.out (Bp _ nq));go_wp2_with fail;all_goals(first|(exfalso;apply G;cases x;cases y;simp_all;done)|(go_ret;exact⟨by rw[aq.out];rfl,X.out⟩))
   ·obtain rfl:i=a.length:=by omega
    have ak:decide ((a.length:Int)<(a.length:Int))=false:=As (by omega);have ag:decide (a=b)=true:=by
     rw[Di];have:=ae.out;rw[Dw,ac.out,Dw]at this;exact this
    have au:=Z ag;clear ag z;go_wp2_with fail;go_ret;exact⟨by rw[au.out];rfl,K.out⟩
 ·have aj:((a.length:Int) !=(b.length:Int))=true:=(by simp;omega);have F:decide (a=b)=false:=by
   rw[Ex];intro e;rw[e]at h;exact h rfl
  rw[F];clear F;go_enter func35,ntmps35;go_wp2_with fail;go_ret;exact⟨rfl,AB _ _⟩
theorem QM(n0:Nat)(a b:List (List (List UInt8)))(X aa:Value)(w:World)(K:FP n0 w X a)(L:FP n0 w aa b):
  Calls prog 37 #[X,aa,.func (.func 34) #[] #[]] w fun e w'=>e=.returned (.bool (decide (a=b)))/\w.grownBy w' none:=by
 obtain⟨au,aw,rfl,ax⟩:=K.form;obtain⟨ay,az,rfl,aA⟩:=L.form;have ag:=Z K;have ah:=Z L;have aB:(a.length:Int)<=9223372036854775807:=(by omega);have aC:(b.length:Int)<=9223372036854775807:=(by omega);clear K L;by_cases F:a.length=b.length
 ·have ai:((a.length:Int) !=(b.length:Int))=false:=(by rw[F];simp);have ab:=Z F;clear F;go_enter func37,ntmps37;go_wp2_with fail;go_loopw [17] (fun v wr=> ∃i:Nat,v=.int .i64 i/\i<=a.length/\a.take i=b.take i/\w.grownBy wr none) (fun v _=>a.length-(intOf v).toNat);case atStart=>exact⟨0,rfl,DD _,rfl,AB _ _⟩
  case round=>
   obtain⟨i,rfl,aD,ac,G⟩:=hrel;have ad:=Z ac;have M:=Z G;clear ac;by_cases N:i<a.length
   ·have aj:decide ((i:Int)<(a.length:Int))=true:=Au (by omega);have ae:i<b.length:=(by rw[<-ab.out];exact N);have aE:(0:Int)<=i/\(i:Int)<(a.length:Int):=(by omega);have aF:(0:Int)<=i/\(i:Int)<(b.length:Int):=(by omega);have hF:=PF.AL (n0:=n0) G;obtain⟨aG,aH,u1,ak,aI,al,s1⟩:=(FP.pf ag.out hF).get i N;obtain⟨J,aJ,u2,am,aK,an,s2⟩:=(FP.pf ah.out hF).get i ae;obtain⟨aL,d1,rfl,_,_⟩:=s1.at_;obtain⟨aM,d2,rfl,_,_⟩:=s2.at_;have h:=Ju n0 _ _ _ _ _ s1 s2;obtain⟨x,hx⟩:=U (a[i]);obtain⟨y,hy⟩:=U (b[i]);rw[hx]at al h;rw[hy]at an h;subst ak am;by_cases z:x=y
    ·rw[Au z]at h;have O:=Z h;have ao:=Z (show a.take (i+1)=b.take (i+1) by rw[Du N,Du ae,ad.out,hx,hy,z]);clear h hx hy hF G s1 s2 z;go_wp2_with fail;refine O.out.mono ?_;rintro e ap ⟨rfl,J⟩;have W:=Z (BY M.out J);go_wp2_with fail;go_roundw;case rel=>exact⟨i+1,by go_num,by omega,ao.out,W.out⟩
     case measure=>simp[intOf];omega
    ·rw[As z]at h;have O:=Z h;have I:decide (a=b)=false:=by
      rw[Ex];intro e;subst e;exact z (hx.symm.trans hy)
     have aq:=Z I;clear h hx hy hF G s1 s2 z I;go_wp2_with fail;refine O.out.mono ?_;rintro e ap ⟨rfl,J⟩;have W:=Z (BY M.out J);go_wp2_with fail;go_ret;exact⟨by rw[aq.out];rfl,W.out⟩
   ·obtain rfl:i=a.length:=by omega
    have aj:decide ((a.length:Int)<(a.length:Int))=false:=As (by omega);have af:decide (a=b)=true:=by
     rw[Di];have:=ad.out;rw[Dw,ab.out,Dw]at this;exact this
    have ar:=Z af;clear af G;go_wp2_with fail;go_ret;exact⟨by rw[ar.out];rfl,M.out⟩
 ·have ai:((a.length:Int) !=(b.length:Int))=true:=(by simp;omega);have I:decide (a=b)=false:=by
   rw[Ex];intro e;rw[e]at F;exact F rfl
  rw[I];clear I;go_enter func37,ntmps37;go_wp2_with fail;go_ret;exact⟨rfl,AB _ _⟩
theorem PC(n0:Nat)(x y:V)(bn bo bp bq br u1 u2 u3 u4 u5:Value)(w:World)(a2:Fk n0 w bn bo bp bq br x)(a3:Fk n0 w u1 u2 u3 u4 u5 y):
  Calls prog 33 #[.agg (AU x bn bo bp bq br).toArray,.agg (AU y u1 u2 u3 u4 u5).toArray] w fun e w'=>e=.returned (.bool (decide (x=y)))/\w.grownBy w' none:=by
 obtain⟨a4,a5,a6,a7,a8,c3,a9,c4,a',ba,rfl,rfl,rfl,rfl,rfl⟩:=a2.C5;obtain⟨bb,d1,bc,d2,bd,d3,be,d4,bf,d5,rfl,rfl,rfl,rfl,rfl⟩:=a3.C5;obtain⟨J,K,I,aj,ak,al,am,an⟩:=x;obtain⟨aG,az,aw,ao,ap,aq,ar,au⟩:=y;have aN:=Ev w (.cells #[.int .i64 J,.string ⟨K.toArray⟩,.bool I,.slice a4 aj.length a5,.slice a6 ak.length a7,.slice a8 al.length c3,.slice a9 am.length c4,.slice a' an.length ba] 32) none;have bg:=Y.new w 32 #[.int .i64 J,.string ⟨K.toArray⟩,.bool I,.slice a4 aj.length a5,.slice a6 ak.length a7,.slice a8 al.length c3,.slice a9 am.length c4,.slice a' an.length ba];obtain⟨aA,aS⟩:=U (w.alloc (.cells #[.int .i64 J,.string ⟨K.toArray⟩,.bool I,.slice a4 aj.length a5,.slice a6 ak.length a7,.slice a8 al.length c3,.slice a9 am.length c4,.slice a' an.length ba] 32));rw[aS]at aN;obtain⟨aT,bh⟩:=U w.heap.size;rw[aS,bh]at bg;have aH:=Ev aA (.cells #[.int .i64 aG,.string ⟨az.toArray⟩,.bool aw,.slice bb ao.length d1,.slice bc ap.length d2,.slice bd aq.length d3,.slice be ar.length d4,.slice bf au.length d5] 32) none;have bi:=Y.new aA 32 #[.int .i64 aG,.string ⟨az.toArray⟩,.bool aw,.slice bb ao.length d1,.slice bc ap.length d2,.slice bd aq.length d3,.slice be ar.length d4,.slice bf au.length d5];obtain⟨aO,aU⟩:=U (aA.alloc (.cells #[.int .i64 aG,.string ⟨az.toArray⟩,.bool aw,.slice bb ao.length d1,.slice bc ap.length d2,.slice bd aq.length d3,.slice be ar.length d4,.slice bf au.length d5] 32));rw[aU]at aH;obtain⟨aV,bj⟩:=U aA.heap.size;rw[aU,bj]at bi;have aW:=Z aS;have aX:=Z aU;have aY:=Z bh;have aZ:=Z bj;have ax:=Z (BY aN aH);have ag:=Z (Y.grown bg aH (by simp));have ah:=Z bi;have aP:=Z (Fk.pf a2 (PF.AL (n0:=n0) (BY aN aH)));have aQ:=Z (Fk.pf a3 (PF.AL (n0:=n0) (BY aN aH)));have a0:=Z (AB aO none);have bE:=Y.cell ag.out 0;have bF:=Y.cell ah.out 0;have bG:=Y.cell ag.out 1;have bH:=Y.cell ah.out 1;have bI:=Y.cell ag.out 2;have bJ:=Y.cell ah.out 2;have L:=Y.cell ag.out 3;have M:=Y.cell ah.out 3;have N:=Y.cell ag.out 4;have O:=Y.cell ah.out 4;have W:=Y.cell ag.out 5;have X:=Y.cell ah.out 5;have aa:=Y.cell ag.out 6;have ab:=Y.cell ah.out 6;have ac:=Y.cell ag.out 7;have ad:=Y.cell ah.out 7;have ae:=Y.lt ag.out;have af:=Y.lt ah.out;unfold AU sv;clear aN aH bg bi aS aU bh bj a2 a3;by_cases bk:J=aG
 ·subst bk;by_cases bl:K=az
  ·subst bl;by_cases bm:I=aw
   ·subst bm;have a1:(I==I)=true:=(by cases I<;>rfl);go_enter func33,ntmps33;go_upto_region 1 with(first|(refine BK _ aA aT (by exact rfl) aW.out aY.out ?_)|(refine BK _ aO aV (by exact rfl) aX.out aZ.out ?_));have F:=Ju n0 _ _ _ _ _ (CW.pf aP.out.AZ (PF.AL (n0:=n0) a0.out)) (CW.pf aQ.out.AZ (PF.AL (n0:=n0) a0.out));by_cases aI:aj=ao
    ·rw[Au aI]at F;have G:=Z F;have bt:=Z aI;clear F aI;go_wp2_with fail;refine G.out.mono ?_;rintro e w0 ⟨rfl,gk⟩;have aB:=Z (BY a0.out gk);clear gk G L N W aa ac M O X ab ad ae af;have h:=Y.grown ag.out aB.out (by simp);have z:=Y.grown ah.out aB.out (by simp);have L:=Y.cell h 3;have M:=Y.cell z 3;have N:=Y.cell h 4;have O:=Y.cell z 4;have W:=Y.cell h 5;have X:=Y.cell z 5;have aa:=Y.cell h 6;have ab:=Y.cell z 6;have ac:=Y.cell h 7;have ad:=Y.cell z 7;have ae:=Y.lt h;have af:=Y.lt z;clear h z;have F:=Ju n0 _ _ _ _ _ (CW.pf aP.out.words (PF.AL (n0:=n0) aB.out)) (CW.pf aQ.out.words (PF.AL (n0:=n0) aB.out));by_cases aJ:ak=ap
     ·rw[Au aJ]at F;have G:=Z F;have bu:=Z aJ;clear F aJ;go_wp2_with fail;refine G.out.mono ?_;rintro e bv ⟨rfl,gk⟩;have aC:=Z (BY aB.out gk);clear gk G L N W aa ac M O X ab ad ae af;have h:=Y.grown ag.out aC.out (by simp);have z:=Y.grown ah.out aC.out (by simp);have L:=Y.cell h 3;have M:=Y.cell z 3;have N:=Y.cell h 4;have O:=Y.cell z 4;have W:=Y.cell h 5;have X:=Y.cell z 5;have aa:=Y.cell h 6;have ab:=Y.cell z 6;have ac:=Y.cell h 7;have ad:=Y.cell z 7;have ae:=Y.lt h;have af:=Y.lt z;clear h z;have F:=Sy n0 _ _ _ _ _ (Mu.pf aP.out.DJ (PF.AL (n0:=n0) aC.out)) (Mu.pf aQ.out.DJ (PF.AL (n0:=n0) aC.out));by_cases aK:al=aq
      ·rw[Au aK]at F;have G:=Z F;have bw:=Z aK;clear F aK;go_wp2_with fail;refine G.out.mono ?_;rintro e bx ⟨rfl,gk⟩;have aD:=Z (BY aC.out gk);clear gk G L N W aa ac M O X ab ad ae af;have h:=Y.grown ag.out aD.out (by simp);have z:=Y.grown ah.out aD.out (by simp);have L:=Y.cell h 3;have M:=Y.cell z 3;have N:=Y.cell h 4;have O:=Y.cell z 4;have W:=Y.cell h 5;have X:=Y.cell z 5;have aa:=Y.cell h 6;have ab:=Y.cell z 6;have ac:=Y.cell h 7;have ad:=Y.cell z 7;have ae:=Y.lt h;have af:=Y.lt z;clear h z;have F:=Pz n0 _ _ _ _ _ (E9.pf aP.out.kids (PF.AL (n0:=n0) aD.out)) (E9.pf aQ.out.kids (PF.AL (n0:=n0) aD.out));by_cases aL:an=au
       ·rw[Au aL]at F;have G:=Z F;have bz:=Z aL;clear F aL;go_wp2_with fail;refine G.out.mono ?_;rintro e bA ⟨rfl,gk⟩;have aE:=Z (BY aD.out gk);clear gk G L N W aa ac M O X ab ad ae af;have h:=Y.grown ag.out aE.out (by simp);have z:=Y.grown ah.out aE.out (by simp);have L:=Y.cell h 3;have M:=Y.cell z 3;have N:=Y.cell h 4;have O:=Y.cell z 4;have W:=Y.cell h 5;have X:=Y.cell z 5;have aa:=Y.cell h 6;have ab:=Y.cell z 6;have ac:=Y.cell h 7;have ad:=Y.cell z 7;have ae:=Y.lt h;have af:=Y.lt z;clear h z;have F:=QM n0 _ _ _ _ _ (FP.pf aP.out.AT (PF.AL (n0:=n0) aE.out)) (FP.pf aQ.out.AT (PF.AL (n0:=n0) aE.out));by_cases aM:am=ar
        ·rw[Au aM]at F;have G:=Z F;have bB:=Z aM;clear F aM;go_wp2_with fail;refine G.out.mono ?_;rintro e bC ⟨rfl,gk⟩;have aR:=Z (BY aE.out gk);clear gk G L N W aa ac M O X ab ad ae af;have h:=Y.grown ag.out aR.out (by simp);have z:=Y.grown ah.out aR.out (by simp);have L:=Y.cell h 3;have M:=Y.cell z 3;have N:=Y.cell h 4;have O:=Y.cell z 4;have W:=Y.cell h 5;have X:=Y.cell z 5;have aa:=Y.cell h 6;have ab:=Y.cell z 6;have ac:=Y.cell h 7;have ad:=Y.cell z 7;have ae:=Y.lt h;have af:=Y.lt z;clear h z;have bs:decide ((⟨J,K,I,aj,ak,al,am,an⟩:V)=⟨J,K,I,ao,ap,aq,ar,au⟩)=true:=(by rw[bt.out,bu.out,bw.out,bz.out,bB.out];exact Au rfl);have bD:=Z bs;clear bs;go_wp2_with fail;go_ret;exact⟨by rw[bD.out];rfl,BY ax.out aR.out⟩
        ·rw[As aM]at F;have G:=Z F;have ai:decide ((⟨J,K,I,aj,ak,al,am,an⟩:V)=⟨J,K,I,ao,ap,aq,ar,au⟩)=false:=As (fun e=>aM (congrArg V.AT e));have ay:=Z ai;clear F ai aM;go_wp2_with fail;refine G.out.mono ?_;rintro e bC ⟨rfl,gk⟩;have aR:=Z (BY aE.out gk);clear gk G L N W aa ac M O X ab ad ae af;go_wp2_with fail;go_ret;exact⟨by rw[ay.out];rfl,BY ax.out aR.out⟩
       ·rw[As aL]at F;have G:=Z F;have ai:decide ((⟨J,K,I,aj,ak,al,am,an⟩:V)=⟨J,K,I,ao,ap,aq,ar,au⟩)=false:=As (fun e=>aL (congrArg V.kids e));have ay:=Z ai;clear F ai aL;go_wp2_with fail;refine G.out.mono ?_;rintro e bA ⟨rfl,gk⟩;have aE:=Z (BY aD.out gk);clear gk G L N W aa ac M O X ab ad ae af;go_wp2_with fail;go_ret;exact⟨by rw[ay.out];rfl,BY ax.out aE.out⟩
      ·rw[As aK]at F;have G:=Z F;have ai:decide ((⟨J,K,I,aj,ak,al,am,an⟩:V)=⟨J,K,I,ao,ap,aq,ar,au⟩)=false:=As (fun e=>aK (congrArg V.AK e));have ay:=Z ai;clear F ai aK;go_wp2_with fail;refine G.out.mono ?_;rintro e bx ⟨rfl,gk⟩;have aD:=Z (BY aC.out gk);clear gk G L N W aa ac M O X ab ad ae af;go_wp2_with fail;go_ret;exact⟨by rw[ay.out];rfl,BY ax.out aD.out⟩
     ·rw[As aJ]at F;have G:=Z F;have ai:decide ((⟨J,K,I,aj,ak,al,am,an⟩:V)=⟨J,K,I,ao,ap,aq,ar,au⟩)=false:=As (fun e=>aJ (congrArg V.words e));have ay:=Z ai;clear F ai aJ;go_wp2_with fail;refine G.out.mono ?_;rintro e bv ⟨rfl,gk⟩;have aC:=Z (BY aB.out gk);clear gk G L N W aa ac M O X ab ad ae af;go_wp2_with fail;go_ret;exact⟨by rw[ay.out];rfl,BY ax.out aC.out⟩
    ·rw[As aI]at F;have G:=Z F;have ai:decide ((⟨J,K,I,aj,ak,al,am,an⟩:V)=⟨J,K,I,ao,ap,aq,ar,au⟩)=false:=As (fun e=>aI (congrArg V.AZ e));have ay:=Z ai;clear F ai aI;go_wp2_with fail;refine G.out.mono ?_;rintro e w0 ⟨rfl,gk⟩;have aB:=Z (BY a0.out gk);clear gk G L N W aa ac M O X ab ad ae af;go_wp2_with fail;go_ret;exact⟨by rw[ay.out];rfl,BY ax.out aB.out⟩
   ·have aF:decide ((⟨J,K,I,aj,ak,al,am,an⟩:V)=⟨J,K,aw,ao,ap,aq,ar,au⟩)=false:=As (fun e=>bm (congrArg V.A7 e));rw[aF];have a1:(I==aw)=false:=(by cases I<;>cases aw<;>first|rfl|exact Aj rfl bm);clear aF;go_enter func33,ntmps33;go_upto_region 1 with(first|(refine BK _ aA aT (by exact rfl) aW.out aY.out ?_)|(refine BK _ aO aV (by exact rfl) aX.out aZ.out ?_));go_wp2_with fail;go_ret;exact⟨rfl,ax.out⟩
  ·have aF:decide ((⟨J,K,I,aj,ak,al,am,an⟩:V)=⟨J,az,aw,ao,ap,aq,ar,au⟩)=false:=As (fun e=>bl (congrArg V.name e));rw[aF];have a1:(K==az)=false:=(by rw[A4];exact bl);have s1:((ByteArray.mk K.toArray)==⟨az.toArray⟩)=false:=(by rw[Ii];exact a1);clear aF;go_enter func33,ntmps33;go_upto_region 1 with(first|(refine BK _ aA aT (by exact rfl) aW.out aY.out ?_)|(refine BK _ aO aV (by exact rfl) aX.out aZ.out ?_));go_wp2_with fail;go_ret;exact⟨rfl,ax.out⟩
 ·have aF:decide ((⟨J,K,I,aj,ak,al,am,an⟩:V)=⟨aG,az,aw,ao,ap,aq,ar,au⟩)=false:=As (fun e=>bk (congrArg V.kind e));rw[aF];have a1:(J==aG)=false:=(by rw[A4];exact bk);clear aF;go_enter func33,ntmps33;go_upto_region 1 with(first|(refine BK _ aA aT (by exact rfl) aW.out aY.out ?_)|(refine BK _ aO aV (by exact rfl) aX.out aZ.out ?_));go_wp2_with fail;go_ret;exact⟨rfl,ax.out⟩
theorem Dj.form{n0:Nat}{w:World}{v:Value}{l:List V}(h:Dj n0 w v l):∃a z,v=.slice a l.length z/\l.length<=9223372036854775807:=by
 obtain⟨I,h,_⟩:=h;obtain⟨a,z,F,_,G,_⟩:=h.now;exact⟨a,z,F,G⟩
theorem Qw(n0:Nat)(a b:List V)(bd be:Value)(w:World)(an:Dj n0 w bd a)(ao:Dj n0 w be b):
  Calls prog 32 #[bd,be,.func (.func 33) #[] #[]] w fun e w'=>e=.returned (.bool (decide (a=b)))/\w.grownBy w' none:=by
 obtain⟨bL,bM,rfl,bN⟩:=an.form;obtain⟨bO,bP,rfl,bQ⟩:=ao.form;have bA:=Z an;have bB:=Z ao;have bR:(a.length:Int)<=9223372036854775807:=(by omega);have bS:(b.length:Int)<=9223372036854775807:=(by omega);clear an ao;by_cases L:a.length=b.length
 ·have bC:((a.length:Int) !=(b.length:Int))=false:=(by rw[L];simp);have bf:=Z L;clear L;go_enter func32,ntmps32;go_wp2_with fail;go_loopw [17] (fun v wr=> ∃i:Nat,v=.int .i64 i/\i<=a.length/\a.take i=b.take i/\w.grownBy wr none) (fun v _=>a.length-(intOf v).toNat);case atStart=>exact⟨0,rfl,DD _,rfl,AB _ _⟩
  case round=>
   obtain⟨i,rfl,bT,bg,O⟩:=hrel;have bh:=Z bg;have ap:=Z O;clear bg;by_cases aq:i<a.length
   ·have bD:decide ((i:Int)<(a.length:Int))=true:=Au (by omega);have bi:i<b.length:=(by rw[<-bf.out];exact aq);have bU:(0:Int)<=i/\(i:Int)<(a.length:Int):=(by omega);have bV:(0:Int)<=i/\(i:Int)<(b.length:Int):=(by omega);have hF:=PF.AL (n0:=n0) O;obtain⟨bW,bX,bY,bZ,b0,b1,b2,b3,ar,_,_,bj,W,au,X,aw,ax,ay,az,aA,aB⟩:=(Dj.pf bA.out hF).at_ i aq;injection ar with ar _ bE;subst ar bE;obtain⟨aa,b4,b5,b6,b7,z3,b8,b9,aC,_,_,G,ab,ac,M,ad,ae,af,ag,ah,ai⟩:=(Dj.pf bB.out hF).at_ i bi;injection aC with aC _ bF;subst aC bF;obtain⟨aD,aE,aF,aG,aH,c3,aI,c4,aJ,aK,rfl,rfl,rfl,rfl,rfl⟩:=W.C5;obtain⟨aL,d1,aM,d2,aN,d3,aO,d4,aP,d5,rfl,rfl,rfl,rfl,rfl⟩:=ab.C5;obtain⟨x,hx⟩:=U (a[i]);obtain⟨y,hy⟩:=U (b[i]);rw[hx]at W au X aw ax ay az aA aB;rw[hy]at ab ac M ad ae af ag ah ai;unfold sv at X M;have F:=Ev wr (.cells #[.int .i64 x.kind,.string ⟨x.name.toArray⟩,.bool x.A7,.slice aD x.AZ.length aE,.slice aF x.words.length aG,.slice aH x.AK.length c3,.slice aI x.AT.length c4,.slice aJ x.kids.length aK] 32) none;have aQ:=Y.new wr 32 #[.int .i64 x.kind,.string ⟨x.name.toArray⟩,.bool x.A7,.slice aD x.AZ.length aE,.slice aF x.words.length aG,.slice aH x.AK.length c3,.slice aI x.AT.length c4,.slice aJ x.kids.length aK];obtain⟨aj,ak⟩:=U (wr.alloc (.cells #[.int .i64 x.kind,.string ⟨x.name.toArray⟩,.bool x.A7,.slice aD x.AZ.length aE,.slice aF x.words.length aG,.slice aH x.AK.length c3,.slice aI x.AT.length c4,.slice aJ x.kids.length aK] 32));rw[ak]at F;obtain⟨b',aR⟩:=U wr.heap.size;rw[ak,aR]at aQ;have bk:=AH F G ac;have bl:=AH F G M;have bm:=AH F G ad;have bn:=AH F G ae;have bo:=AH F G af;have bp:=AH F G ag;have bq:=AH F G ah;have br:=AH F G ai;have bs:=DZ G F.size;have J:=Ev aj (.cells #[.int .i64 y.kind,.string ⟨y.name.toArray⟩,.bool y.A7,.slice aL y.AZ.length d1,.slice aM y.words.length d2,.slice aN y.AK.length d3,.slice aO y.AT.length d4,.slice aP y.kids.length d5] 32) none;have aS:=Y.new aj 32 #[.int .i64 y.kind,.string ⟨y.name.toArray⟩,.bool y.A7,.slice aL y.AZ.length d1,.slice aM y.words.length d2,.slice aN y.AK.length d3,.slice aO y.AT.length d4,.slice aP y.kids.length d5];obtain⟨bG,al⟩:=U (aj.alloc (.cells #[.int .i64 y.kind,.string ⟨y.name.toArray⟩,.bool y.A7,.slice aL y.AZ.length d1,.slice aM y.words.length d2,.slice aN y.AK.length d3,.slice aO y.AT.length d4,.slice aP y.kids.length d5] 32));rw[al]at J;obtain⟨ca,aT⟩:=U aj.heap.size;rw[al,aT]at aS;have bt:=Z ak;have bu:=Z al;have bv:=Z aR;have bw:=Z aT;have bx:=Z (BY F J);have h:=Z (Y.grown aQ J (by simp));have z:=Z aS;have I:=PC n0 x y _ _ _ _ _ _ _ _ _ _ bG (Fk.pf W (PF.AL (n0:=n0) (BY F J))) (Fk.pf ab (PF.AL (n0:=n0) (BY F J)));unfold AU sv at I;have am:=Z (BC hx hy);clear F J aQ aS ak al aR aT hx hy hF O W ab;by_cases K:x=y
    ·rw[Au K]at I;have aU:=Z I;have bH:=Z (show a.take (i+1)=b.take (i+1) by rw[Du aq,Du bi,bh.out,am.out.1,am.out.2,K]);clear I K;go_upto_region 6 with(fail);rw[bt.out,bv.out];clear au X aw ax ay az aA aB ac M ad ae af ag ah ai bj G;go_upto_region 7 with(fail);rw[bu.out,bw.out];clear bk bl bm bn bo bp bq br bs;have aV:=Y.cell h.out 0;have aW:=Y.cell z.out 0;have aX:=Y.cell h.out 1;have aY:=Y.cell z.out 1;have aZ:=Y.cell h.out 2;have a0:=Y.cell z.out 2;have a1:=Y.cell h.out 3;have a2:=Y.cell z.out 3;have a3:=Y.cell h.out 4;have a4:=Y.cell z.out 4;have a5:=Y.cell h.out 5;have a6:=Y.cell z.out 5;have a7:=Y.cell h.out 6;have a8:=Y.cell z.out 6;have a9:=Y.cell h.out 7;have a':=Y.cell z.out 7;have ba:=Y.lt h.out;have bb:=Y.lt z.out;go_wp2_with fail;refine aU.out.mono ?_;rintro e bI ⟨rfl,aa⟩;have bc:=Z (BY (BY ap.out bx.out) aa);clear aV aX aZ a1 a3 a5 a7 a9 aW aY a0 a2 a4 a6 a8 a' ba bb;go_wp2_with fail;go_roundw;case rel=>exact⟨i+1,by go_num,by omega,bH.out,bc.out⟩
     case measure=>simp[intOf];omega
    ·rw[As K]at I;have aU:=Z I;have N:decide (a=b)=false:=by
      rw[Ex];intro e;subst e;exact K (am.out.1.symm.trans am.out.2)
     have bJ:=Z N;clear I K N;go_upto_region 6 with(fail);rw[bt.out,bv.out];clear au X aw ax ay az aA aB ac M ad ae af ag ah ai bj G;go_upto_region 7 with(fail);rw[bu.out,bw.out];clear bk bl bm bn bo bp bq br bs;have aV:=Y.cell h.out 0;have aW:=Y.cell z.out 0;have aX:=Y.cell h.out 1;have aY:=Y.cell z.out 1;have aZ:=Y.cell h.out 2;have a0:=Y.cell z.out 2;have a1:=Y.cell h.out 3;have a2:=Y.cell z.out 3;have a3:=Y.cell h.out 4;have a4:=Y.cell z.out 4;have a5:=Y.cell h.out 5;have a6:=Y.cell z.out 5;have a7:=Y.cell h.out 6;have a8:=Y.cell z.out 6;have a9:=Y.cell h.out 7;have a':=Y.cell z.out 7;have ba:=Y.lt h.out;have bb:=Y.lt z.out;go_wp2_with fail;refine aU.out.mono ?_;rintro e bI ⟨rfl,aa⟩;have bc:=Z (BY (BY ap.out bx.out) aa);clear aV aX aZ a1 a3 a5 a7 a9 aW aY a0 a2 a4 a6 a8 a' ba bb;go_wp2_with fail;go_ret;exact⟨by rw[bJ.out];rfl,bc.out⟩
   ·obtain rfl:i=a.length:=by omega
    have bD:decide ((a.length:Int)<(a.length:Int))=false:=As (by omega);have bz:decide (a=b)=true:=by
     rw[Di];have:=bh.out;rw[Dw,bf.out,Dw]at this;exact this
    have bK:=Z bz;clear bz O;go_wp2_with fail;go_ret;exact⟨by rw[bK.out];rfl,ap.out⟩
 ·have bC:((a.length:Int) !=(b.length:Int))=true:=(by simp;omega);have N:decide (a=b)=false:=by
   rw[Ex];intro e;rw[e]at L;exact L rfl
  rw[N];clear N;go_enter func32,ntmps32;go_wp2_with fail;go_ret;exact⟨rfl,AB _ _⟩
theorem Qk(n0:Nat)(a b:List V)(h z:Value)(w:World)(F:Dj n0 w h a)(G:Dj n0 w z b):
  Calls prog 13 #[h,z] w fun e w'=>e=.returned (.bool (decide (a=b)))/\w.grownBy w' none:=by
 have I:=Z (Qw n0 a b h z w F G);clear F G;go_enter func13,ntmps13;go_wp2_with fail;refine I.out.mono ?_;rintro e K ⟨rfl,J⟩;go_wp2_with fail;go_ret;exact⟨rfl,J⟩
end Go.Proofs.YtdhfhphbkfgamaaGreat
