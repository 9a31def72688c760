/- PrintTells: a part of its proof. -/
import Derived.Test.YtdhfhphbkfgamaaGreatUh
set_option maxRecDepth 100000
set_option maxHeartbeats 64000000
namespace Go.Proofs.YtdhfhphbkfgamaaGreat
section
open Go.RowKit Lx
theorem GW {w w':World} {e:TypeId} {size n k:Nat} {v:Value} {xs:List Value} (h:w.grownBy w' none) (z:Own w e size v n xs k):Own w' e size v n xs k:=
 z.Bl (S:=fun _=>False) (Az.AL h (fun k hk=>by cases hk)) (fun _ _ h=>h)
theorem JT {w a b:World} {S:Nat→Prop} (h:w.grownBy a none) (z:Az S a b) (F: ∀k,S k→w.heap.size≤k):w.grownBy b none:=
 ((Az.AL (S:=fun k=>w.heap.size≤k) h (fun k hk=>by cases hk)).trans z (fun i G hs=>F i hs)).grown fun k hk hs=>by omega
section
variable {l:List V} {bs:List Nat} {i f:Nat}
theorem Q4 (h:FX (l.take i) []=some bs) (z:bs.length=i) (F:i<l.length) (hk:EP bs (l[i].kind==14) l[i].kids.reverse i=some f):FX (l.take (i+1)) []=some (bs++[f]):=by
 rw[List.take_succ_eq_append_getElem F,Gx,h];show(match EP bs (l[i].kind==14) l[i].kids.reverse bs.length with|some b=>FX [] (bs++[b])|none=>none)=_;rw[z,hk];rfl
theorem Qj (h:FX (l.take i) []=some bs) (z:bs.length=i) (F:i<l.length) (hk:EP bs (l[i].kind==14) l[i].kids.reverse i=none):D7 l=false:=by
 have:FX l []=none:=by
  rw[←List.take_append_drop i l,Gx,h,List.drop_eq_getElem_cons F];show(match EP bs (l[i].kind==14) l[i].kids.reverse bs.length with|some b=>FX _ (bs++[b])|none=>none)=_;rw[z,hk]
 unfold D7;rw[this];simp
theorem Ta (z:FX l []=some bs) (F:1≤l.length) (G:l.length≤300) (h:bs.length=l.length):D7 l=(bs.getD (l.length-1) 0==0):=by
 unfold D7;rw[z,At F,At G,Bool.and_self,Bool.true_and];show(bs.getLastD 1==0)=_;congr 1
 cases bs with
 |nil=>simp at h;omega
 |cons b r=>
  rw[←h,List.getLastD_eq_getLast?,List.getLast?_eq_getElem?,List.getD_eq_getElem?_getD];have I:(b::r).length-1<(b::r).length:=(by simp);rw[List.getElem?_eq_getElem I];rfl
end
theorem Z1Q {P:Prop} (h:P:=by
 go_wp2_with fail;go_ret;exact⟨by rw[aq.out];rfl,W.out⟩):P:=h
theorem Z1R {P:Prop} (h:P:=by
 rw[List.getD_eq_getElem?_getD,List.getElem?_eq_getElem aj]at O;rw[List.getElem?_eq_getElem aj,←O];rfl):P:=h
theorem Z1S {P:Prop} (h:P:=by
 clear ak;go_enter Tryz.func14,Tryz.ntmps14;go_wp2_with fail;go_ret;exact⟨rfl,AB _ _⟩):P:=h
theorem Oa (n0:Nat) (l:List V) (v:Value) (w:World) (F:DZ n0 w v l):Calls Tryz.prog 14 #[v] w fun e w'=>e=.returned (.bool (D7 l))∧w.grownBy w' none:=by
 obtain⟨bM,bN,rfl,ba⟩:=F.form;have aL:=Z F;obtain⟨h,au⟩: ∃h,l.length=h:=⟨_,rfl⟩;rw[au]at ba aL⊢;have J:=Z au;clear F au;by_cases ak:1≤h∧h≤300
 ·have aM:decide ((h:Int)<1)=false:=Aq (by omega);have bb:decide ((300:Int)<(h:Int))=false:=Aq (by omega);have aN:decide (h<1)=false:=Aq (by omega);have bc:decide (300<h)=false:=Aq (by omega);have aw:=Z ak;have bd:=Z (Own.nil w 3 1 0);have be:(h:Int)≤300:=(by omega);clear ak;go_enter Tryz.func14,Tryz.ntmps14;go_wp2_with fail;go_loopg [3,4] h (fun g aO bf wr=> ∃(i:Nat) (bs:List Nat),bf=.int .i64 i∧i≤h∧h-i≤g∧bs.length=i∧FX (l.take i) []=some bs∧(∀j,j<i→bs.getD j 0≤j)∧Own wr 3 1 aO i (bs.map fun b:Nat=>Value.int .i64 (b:Int)) 0∧(∀b,aO.ownBlock=some b→w.heap.size≤b)∧w.grownBy wr none);case atStart=>exact⟨0,[],rfl,DM _,BL _,rfl,rfl,fun j F=>Ai F (Nat.not_lt_zero j),bd.out,(fun b ad=>by cases ad),AB _ _⟩
  case round=>
   obtain⟨i,bs,rfl,bO,aP,aQ,aR,aS,al,aT,ax⟩:=hrel;obtain⟨ay,rfl⟩: ∃ay,ay=gk:=⟨_,rfl⟩;have aU:=Z aP;have W:=Z ax;have aV:=Z al;have aW:=Z aT;have L:=Z aQ;have az:=Z aR;have aX:=Z aS;have be:=aw.out.2;clear aP aT aQ aR aS;by_cases aA:i<h
   ·have bg:decide ((i:Int)<(h:Int))=true:=At (by omega);have bP:decide (i<h)=true:=At aA;have aa:i<l.length:=(by have:=J.out;omega);obtain⟨g,bQ,bR,a,b,bS,p,k,bh,-,-,bT,aB,am,-,-,-,-,-,-,aC⟩:=(aL.out.pf (PF.AL (n0:=n0) ax)).at_ i aa;injection bh with bi bj bk;subst bi;subst bk;clear bj;obtain⟨n,aD⟩: ∃n,l[i]=n:=⟨_,rfl⟩;rw[aD]at aB am;have an:=aB.kids;obtain⟨bU,bV,rfl,bl,ao⟩:=an.at_;obtain⟨ab,aE⟩: ∃m,n.kids.length=m:=⟨_,rfl⟩;obtain⟨bm,M⟩: ∃m,n.kind=m:=⟨_,rfl⟩;rw[aE]at aC an ao;rw[M]at am;have bW:(0:Int)≤(i:Int)∧(i:Int)<(h:Int):=(by omega);have ae:=Z (A8 (show∀F:i<l.length,l[i]=n from fun _=>aD) (A8 aE M));have ac:=Z aA;have bn:=Z an;have bX:(0:Int)≤(ab:Int):=(by omega);have bY:(ab:Int)≤9223372036854775807:=(by omega);clear aD aE M aB an al aA aa bl ao;have bZ:=Z am;have b0:=Z aC;go_wp2_with fail;go_loopg [5,6] ab (fun bo bp bq br=> ∃r f:Nat,bq=.int .i64 ((r:Int)-1)∧r≤ab∧r≤bo∧bp=.int .i64 f∧f≤i∧EP bs (n.kind==14) (n.kids.take r).reverse f=EP bs (n.kind==14) n.kids.reverse i∧br=wr);case atStart=>exact⟨ab,i,rfl,BL _,BL _,rfl,BL _,by have F:=ae.out.2.1;rw[←F,List.take_length],rfl⟩
    case round=>
     obtain⟨r,f,rfl,b1,aY,rfl,aZ,a0,bt⟩:=hrel;subst bt;have a1:=Z a0;have ap:=Z aY;clear a0 aY;by_cases a2:r=0
     ·subst a2;have aa:i<l.length:=(by have:=J.out;have:=ac.out;omega);have a3:EP bs (l[i].kind==14) l[i].kids.reverse i=some f:=by
       have z:=a1.out;rw[List.take_zero,List.reverse_nil,EP]at z;have X:=ae.out.1 aa;rw[X];exact z.symm
      have bu:=Z (Q4 az.out L.out aa a3);have bv:=Z aZ;rw[show(((0:Nat):Int)-1)= -1 from rfl];clear am aC a3 aa;go_wp2_with (at_builtin;refine AU 3 (.int .i64 0) 1 8 Tryz.underlying30 BW rfl _ i (bs.map fun b:Nat=>Value.int .i64 (b:Int)) 0 _ 1 [.int .i64 (f:Int)] rfl rfl (Own.alloc aV.out _) (by omega) (Jp _ _ (f:Int) rfl) (by unfold maxLen;omega) (by omega) ?_;intro b2 b3 a4 a5 a6 _;(have bw:=Z a4;have bx:=Z a5;have bz:=Z a6;clear a4 a5 a6));go_roundg (ay-1);case rel=>
       refine⟨i+1,bs++[f],by go_num,by have:=ac.out;omega,by have:=aU.out;omega,by rw[BE,L.out];rfl,bu.out,?_,?_,?_,?_⟩
       ·intro j b4;by_cases bA:j<i
        ·rw[List.getD_eq_getElem?_getD,List.getElem?_append_left (by have:=L.out;omega),←List.getD_eq_getElem?_getD];exact aX.out j bA
        ·obtain rfl:j=i:=by omega
         rw[List.getD_eq_getElem?_getD,List.getElem?_append_right (by have:=L.out;omega),L.out,Nat.sub_self];exact bv.out
       ·rw[List.map_append];exact bw.out
       ·intro b ad;rcases bz.out b ad with F|F
        ·exact aW.out b F
        ·exact Ef (AF W.out (.cells #[.int .i64 (f:Int)] 3)).size F
       ·exact JT (AF W.out _) bx.out (fun k hk=>aW.out k hk)
      case measure=>have:=aU.out;have:=ac.out;omega
     ·obtain⟨r,rfl⟩: ∃q,r=q+1:=⟨r-1,by omega⟩;have aF:r<n.kids.length:=(by have:=ae.out.2.1;omega);obtain⟨G,aG⟩: ∃G,n.kids[r]=G:=⟨_,rfl⟩;have a7:(n.kids.take (r+1)).reverse=G::(n.kids.take r).reverse:=by
       rw[List.take_succ_eq_append_getElem aF,List.reverse_append,List.reverse_singleton,aG];rfl
      have a8:=Z (by have:=a1.out;rw[a7,EP]at this;exact this);obtain⟨b5,b6,bB,b7,bC⟩:=E0.get bn.out r aF;subst bB;rw[aG]at bC;rw[show(((r+1:Nat):Int)-1)=(r:Int) by omega];have b8:(0:Int)≤(r:Int)∧(r:Int)<(ab:Int):=(by omega);have b9:decide ((0:Int)≤(r:Int))=true:=At (by omega);have M:=ae.out.2.2;clear a7 aG a2 aF;by_cases af:G= -1∧(n.kind==14)=true
      ·obtain⟨rfl,a9⟩:=af;have aH:=Z (by have:=a8.out;rw[Ah ⟨rfl,a9⟩]at this;exact this);rw[M]at a9;clear M;go_wp2_with fail;go_roundg (gk-1);case rel=>exact⟨r,f,rfl,by omega,by have:=ap.out;omega,rfl,aZ,aH.out,rfl⟩
       case measure=>have:=ap.out;omega
      ·have z:=a8.out;rw[U af]at z;have a':((G== -1)=false)∨((G== -1)=true∧(bm==14)=false):=by
        by_cases ag:G= -1
        ·refine .inr ⟨Wi ag,?_⟩;rw[←M];cases ad:n.kind==14 with
         |true=>exact Ai ⟨ag,ad⟩ af
         |false=>rfl
        ·exact .inl (Ba ag)
       by_cases N:f=0∨G≠(f:Int)-1
       ·rw[Ah N]at z;have aq:=Z (show D7 l=false from Qj (i:=i) az.out L.out (by have:=J.out;have:=ac.out;omega) (by have F:=ae.out.1 (by have:=J.out;have:=ac.out;omega);rw[F];exact z.symm));clear z af M;rcases a' with ag|⟨ag,b'⟩
        ·by_cases K:f=0
         ·subst K;clear N;exact Z1Q
         ·have X:G≠(f:Int)-1:=N.resolve_left K;have aI:((f:Int)==0)=false:=Ba (by omega);have bD:(G !=(f:Int)-1)=true:=JG X;clear N K;exact Z1Q
        ·by_cases K:f=0
         ·subst K;clear N;exact Z1Q
         ·have X:G≠(f:Int)-1:=N.resolve_left K;have aI:((f:Int)==0)=false:=Ba (by omega);have bD:(G !=(f:Int)-1)=true:=JG X;clear N K;exact Z1Q
       ·rw[U N]at z;obtain⟨m,ah⟩: ∃m,f-1=m:=⟨_,rfl⟩;have bE:(f:Int)-1=(m:Int):=(by omega);have ao:G=(m:Int):=(by omega);subst ao;have aI:((f:Int)==0)=false:=Ba (by omega);have ca:((m:Int)== -1)=false:=Ba (by omega);have bF:(0:Int)≤(m:Int)∧(m:Int)<(i:Int):=(by omega);obtain⟨aJ,aK,bG,rfl,_,_,bH,ai⟩:=aV.out.some_ (by omega);obtain⟨I,O⟩: ∃I,bs.getD m 0=I:=⟨_,rfl⟩;have bI:I≤i:=(by have:=aX.out m (by omega);omega);have bJ:wr.cell? ⟨aJ,aK+m,none⟩=some (.int .i64 I):=by
         rw[ai m (by omega),List.getElem?_map];have aj:m<bs.length:=(by have:=L.out;have:=ac.out;omega);exact Z1R
        rw[ah,O]at z;have aH:=Z z;clear M z N af ah O ai a';go_wp2_with fail;go_roundg (gk-1);case rel=>exact⟨r,I,rfl,by omega,by have:=ap.out;omega,rfl,bI,aH.out,rfl⟩
        case measure=>have:=ap.out;omega
   ·obtain rfl:i=h:=by omega
    have bg:decide ((i:Int)<(i:Int))=false:=Aq (by omega);obtain⟨aJ,aK,bG,rfl,_,_,bH,ai⟩:=al.some_ (by have:=aw.out;omega);obtain⟨m,ah⟩: ∃m,i-1=m:=⟨_,rfl⟩;have bK:=aw.out.1;have bE:(i:Int)-1=(m:Int):=(by omega);have bF:(0:Int)≤(m:Int)∧(m:Int)<(i:Int):=(by omega);obtain⟨I,O⟩: ∃I,bs.getD m 0=I:=⟨_,rfl⟩;have bJ:wr.cell? ⟨aJ,aK+m,none⟩=some (.int .i64 I):=by
     rw[ai m (by omega),List.getElem?_map];have aj:m<bs.length:=(by have:=L.out;omega);exact Z1R
    have ar:=Z (show D7 l=(I==0) by
     have X:=az.out;rw[←J.out,List.take_length]at X;rw[Ta X (by have:=J.out;omega) (by have:=J.out;omega) (by have:=J.out;have:=L.out;omega),J.out,ah,O])
    clear al ax ai ah O bK;by_cases K:I=0
    ·subst K;go_wp2_with fail;go_ret;exact⟨by rw[ar.out];rfl,W.out⟩
    ·have aI:((I:Int)==0)=false:=Ba (by omega);have bL:=Z (show(I==0)=false from Ba K);go_wp2_with fail;go_ret;exact⟨by rw[ar.out,bL.out];rfl,W.out⟩
 ·have ar:=Z (show D7 l=false by
   unfold D7;rw[J.out];by_cases z:1≤h
   ·rw[Aq (show¬h≤300 by omega),Bool.and_false,Bool.false_and]
   ·rw[Aq z,Bool.false_and,Bool.false_and])
  rw[ar.out];by_cases z:h<1
  ·have aM:decide ((h:Int)<1)=true:=At (by omega);have aN:decide (h<1)=true:=At z;exact Z1S
  ·have aM:decide ((h:Int)<1)=false:=Aq (by omega);have aN:decide (h<1)=false:=Aq z;have bb:decide ((300:Int)<(h:Int))=true:=At (by omega);have bc:decide (300<h)=true:=At (by omega);exact Z1S
end
section
open Go.RowKit Lx
theorem MR (n0:Nat) (a b:List (List UInt8)) (L M:Value) (w:World) (G:CQ n0 w L a) (I:CQ n0 w M b):Calls Tryz.prog 74 #[L,M] w fun e w'=>e=.returned (.bool (decide (a=b)))∧ ∃m,w'=w.drewN m:=by
 obtain⟨ar,au,rfl,_,aw,_⟩:=G.now;obtain⟨ax,ay,rfl,_,az,_⟩:=I.now;have ag:=Z G;have ah:=Z I;have aA:(a.length:Int)≤9223372036854775807:=(by omega);have aB:(b.length:Int)≤9223372036854775807:=(by omega);clear G I;by_cases h:a.length=b.length
 ·have ai:((a.length:Int) !=(b.length:Int))=false:=(by rw[h];simp);have N:=Z h;clear h;go_enter Tryz.func74,Tryz.ntmps74;go_wp2_with fail;go_loopg [5] (a.length+1) (fun g aj wr=> ∃i:Nat,aj=.int .i64 i∧i≤a.length∧g+i=a.length+1∧a.take i=b.take i∧ ∃m,wr=w.drewN m);case atStart=>exact⟨0,rfl,DM _,rfl,rfl,0,rfl⟩
  case round=>
   obtain⟨i,rfl,J,K,O,m,rfl⟩:=hrel;have X:=Z (A8 J K);have aa:=Z O;clear O;by_cases z:i<a.length
   ·have ak:decide ((i:Int)<(a.length:Int))=true:=At (by omega);have ab:decide (i<a.length)=true:=At z;have ac:i<b.length:=(by rw[←N.out];exact z);have aC:(0:Int)≤i∧(i:Int)<(a.length:Int):=(by omega);have aD:(0:Int)≤i∧(i:Int)<(b.length:Int):=(by omega);have aE:(i:Int)+1≤9223372036854775807:=(by omega);obtain⟨aF,aG,al,aH,ad⟩:=CQ.get ag.out i z;obtain⟨aI,aJ,am,aK,ae⟩:=CQ.get ah.out i ac;obtain⟨x,hx⟩: ∃x,a[i]=x:=⟨_,rfl⟩;obtain⟨y,hy⟩: ∃y,b[i]=y:=⟨_,rfl⟩;rw[hx]at ad;rw[hy]at ae;subst al am;unfold sv at ad ae;clear J K;by_cases F:x=y
    ·subst F;have an:=Z (show a.take (i+1)=b.take (i+1) by rw[List.take_succ_eq_append_getElem z,List.take_succ_eq_append_getElem ac,aa.out,hx,hy]);clear hx hy;go_upto_region 6 with(fail);go_quiet (fail);go_wp2_with fail;go_roundg (gk-1);case rel=>exact⟨i+1,by rw[Int.natCast_add];rfl,z,by have:=X.out;omega,an.out,_,rfl⟩
     case measure=>have:=X.out;omega
    ·have ao:=Z (show decide (a=b)=false by
      rw[decide_eq_false_iff_not];intro e;subst e;exact F (hx.symm.trans hy))
     clear hx hy;have ap:((ByteArray.mk x.toArray)==⟨y.toArray⟩)=false:=(by rw[IA,beq_eq_false_iff_ne];exact F);have aL:((ByteArray.mk x.toArray) !=⟨y.toArray⟩)=true:=(by rw[bne,ap];rfl);have aM:(x==y)=false:=(by rw[beq_eq_false_iff_ne];exact F);have aN: ¬(ByteArray.mk x.toArray=⟨y.toArray⟩):=fun e=>F (My.1 e)
     go_upto_region 6 with(fail);go_quiet (fail);go_wp2_with fail;go_ret;exact⟨by rw[ao.out];rfl,m+nq,by rw[World.drewN_drewN]⟩
   ·have ak:decide ((i:Int)<(a.length:Int))=false:=Aq (by omega);have ab:decide (i<a.length)=false:=Aq z;have aq:=Z (show decide (a=b)=true by
     rw[decide_eq_true_eq];have:=aa.out;rw[show i=a.length by omega,List.take_length,N.out,List.take_length]at this;exact this)
    clear J K;go_wp2_with fail;go_ret;exact⟨by rw[aq.out];rfl,m,rfl⟩
 ·have ai:((a.length:Int) !=(b.length:Int))=true:=(by simp;omega);have ab:(a.length !=b.length)=true:=JG h;have af:decide (a=b)=false:=by
   rw[decide_eq_false_iff_not];intro e;rw[e]at h;exact h rfl
  rw[af];clear af;go_enter Tryz.func74,Tryz.ntmps74;go_wp2_with fail;go_ret;exact⟨rfl,0,rfl⟩
structure QT (n0:Nat) (W:World) (A B:Nat) (x y:V) (a b r p k a' b' r' p' k':Value):Prop where
 ba:Y W A 32 #[.int .i64 x.kind,.string ⟨x.name.toArray⟩,.bool x.A5,a,b,r,p,k]
 bb:Y W B 32 #[.int .i64 y.kind,.string ⟨y.name.toArray⟩,.bool y.A5,a',b',r',p',k']
 nx:FP n0 W a b r p k x
 ny:FP n0 W a' b' r' p' k' y
section
variable {n0:Nat} {W W':World} {A B:Nat} {x y:V} {a b r p k a' b' r' p' k':Value}
theorem QT.grown (h:QT n0 W A B x y a b r p k a' b' r' p' k') (z:W.grownBy W' none):QT n0 W' A B x y a b r p k a' b' r' p' k':=
 ⟨Y.grown h.ba z (by simp),Y.grown h.bb z (by simp),h.nx.pf (PF.AL z),h.ny.pf (PF.AL z)⟩
theorem QT.start {w:World} (F:FP n0 w a b r p k x) (G:FP n0 w a' b' r' p' k' y):QT n0 ((w.alloc (.cells #[.int .i64 x.kind,.string ⟨x.name.toArray⟩,.bool x.A5,a,b,r,p,k] 32)).alloc (.cells #[.int .i64 y.kind,.string ⟨y.name.toArray⟩,.bool y.A5,a',b',r',p',k'] 32)) w.heap.size (w.heap.size+1) x y a b r p k a' b' r' p' k':=by
 have h:=AF (AF (AB w none) (.cells #[.int .i64 x.kind,.string ⟨x.name.toArray⟩,.bool x.A5,a,b,r,p,k] 32)) (.cells #[.int .i64 y.kind,.string ⟨y.name.toArray⟩,.bool y.A5,a',b',r',p',k'] 32);have z:=Y.new (w.alloc (.cells #[.int .i64 x.kind,.string ⟨x.name.toArray⟩,.bool x.A5,a,b,r,p,k] 32)) 32 #[.int .i64 y.kind,.string ⟨y.name.toArray⟩,.bool y.A5,a',b',r',p',k'];rw[World.size_alloc]at z;exact⟨(Y.new w 32 _).alloc _,z,F.pf (PF.AL h),G.pf (PF.AL h)⟩
end
theorem Br {w:World} (n:Nat):w.grownBy (w.drewN n) none:=As (AB w none) n
theorem Z1T {P:Prop} (h:P:=by
 clear aB;go_upto_region 8 with(fail);refine Bf 10 (by kernel_rfl) (by kernel_rfl) ?_;simp only[List.take_succ_cons,List.take_zero,List.drop_succ_cons,List.drop_zero];repeat(go_big_quiet_step (fail))
 refine wpQuiet_nil ?_;rintro _ ⟨nq,rfl⟩;have bw:=Z (AI L.out (AI aJ.out (Br nq)));clear ad ae af ag ah ai aj ak al am an ao ap aq ar au aw ax aG a1 a2 aH s1 s2 bo bp bl bm bn;go_wp2_with fail;go_ret;exact⟨by rw[a3.out];try rfl,bw.out⟩):P:=h
theorem Z1U {P:Prop} (h:P:=by
 go_wp2_with fail;go_meet;exact⟨by rw[M.out],rfl⟩):P:=h
theorem Z1V {P:Prop} (h:P:=by
 go_wp2_with fail;go_roundg (gk-1);case rel=>exact⟨i+1,by rw[Int.natCast_add];rfl,br.out,by have:=aO.out;omega,bq.out,AI aJ.out (Br _)⟩
 case measure=>have:=aO.out;omega):P:=h
theorem Z1W {P:Prop} (h:P:=by
 go_wp2_with fail;go_ret;exact⟨by rw[a3.out];try rfl,AI L.out (AI aJ.out (Br _))⟩):P:=h
theorem Ns (n0:Nat) (x y:V) (a b r p k a' b' r' p' k':Value) (w:World) (I:FP n0 w a b r p k x) (K:FP n0 w a' b' r' p' k' y):
  Calls Tryz.prog 50 #[.agg (AT x a b r p k).toArray,.agg (AT y a' b' r' p' k').toArray] w fun e w'=>e=.returned (.bool (decide (x=y)))∧w.grownBy w' none:=by
 have bE:=Z (fun b0 b1 a b W I K=>MR n0 b0 b1 a b W I K);have J:=Z (QT.start I K);have L:=Z (AF (AF (AB w none) (.cells #[.int .i64 x.kind,.string ⟨x.name.toArray⟩,.bool x.A5,a,b,r,p,k] 32)) (.cells #[.int .i64 y.kind,.string ⟨y.name.toArray⟩,.bool y.A5,a',b',r',p',k'] 32));have bK:(x.AK.length:Int)≤9223372036854775807:=(by obtain⟨_,_,_,_,aT,_⟩:=I.DB.now;omega);have bL:(x.kids.length:Int)≤9223372036854775807:=(by obtain⟨_,_,_,_,aT,_⟩:=I.kids.now;omega);have bM:(x.AS.length:Int)≤9223372036854775807:=(by obtain⟨_,_,_,aT⟩:=E4.form I.AS;omega);have bF:=Z (A8 bK (A8 bL bM));obtain⟨b2,b3,b4,b5,b6,c3,b7,c4,b8,b9,rfl,rfl,rfl,rfl,rfl⟩:=I.C1;obtain⟨ca,cb,cc,cd,ce,cf,cg,ch,ci,cj,rfl,rfl,rfl,rfl,rfl⟩:=K.C1;clear I K bK bL bM;obtain⟨R,bG⟩: ∃R,decide (x=y)=R:=⟨_,rfl⟩;rw[bG];have be:=Z bG;clear bG;obtain⟨a6,aK,a7,bf,aU,z,F,G⟩:=x;obtain⟨a8,aL,a9,bg,bh,X,aa,ab⟩:=y;unfold AT sv;simp only[]at*;go_enter Tryz.func50,Tryz.ntmps50;go_upto_region 1 with(fail);generalize (w.alloc (.cells #[.int .i64 a6,.string ⟨aK.toArray⟩,.bool a7,.slice b2 bf.length b3,.slice b4 aU.length b5,.slice b6 z.length c3,.slice b7 F.length c4,.slice b8 G.length b9] 32)).alloc (.cells #[.int .i64 a8,.string ⟨aL.toArray⟩,.bool a9,.slice ca bg.length cb,.slice cc bh.length cd,.slice ce X.length cf,.slice cg aa.length ch,.slice ci ab.length cj] 32)=bN,w.heap.size+1=B at J L⊢;generalize w.heap.size=A at J⊢;obtain⟨ad,ae,af,ag,ah,ai,aj,ak,al⟩:=CF J.out.ba;obtain⟨am,an,ao,ap,aq,ar,au,aw,ax⟩:=CF J.out.bb;obtain⟨tx,aV⟩: ∃t,decide (bf=bg)=t:=⟨_,rfl⟩;obtain⟨cD,aW⟩: ∃t,decide (aU=bh)=t:=⟨_,rfl⟩;have bO:=Z (bE.out _ _ _ _ bN J.out.nx.AY J.out.ny.AY);simp only[aV]at bO;go_wp2_with fail;refine bO.out.mono ?_;rintro e bH ⟨rfl,m,bi⟩;have aX:bN.grownBy bH none:=(by rw[bi];exact Br m);have J:=Z (J.out.grown aX);have L:=Z (AI L.out aX);clear bi aX ad ae af ag ah ai aj ak al am an ao ap aq ar au aw ax;obtain⟨ad,ae,af,ag,ah,ai,aj,ak,al⟩:=CF J.out.ba;obtain⟨am,an,ao,ap,aq,ar,au,aw,ax⟩:=CF J.out.bb;have bP:=Z (bE.out _ _ _ _ bH J.out.nx.words J.out.ny.words);simp only[aW]at bP;go_wp2_with fail;refine bP.out.mono ?_;rintro e bA ⟨rfl,m,bi⟩;have aX:bH.grownBy bA none:=(by rw[bi];exact Br m);have J:=Z (J.out.grown aX);have L:=Z (AI L.out aX);clear bi aX ad ae af ag ah ai aj ak al am an ao ap aq ar au aw ax;obtain⟨ad,ae,af,ag,ah,ai,aj,ak,al⟩:=CF J.out.ba;obtain⟨am,an,ao,ap,aq,ar,au,aw,ax⟩:=CF J.out.bb;go_upto_region 3 with(fail);obtain⟨aC,bQ⟩: ∃b,(!decide (bf=bg∧aU=bh∧a6=a8∧aK=aL∧a7=a9∧z.length=X.length∧F.length=aa.length∧G.length=ab.length))=b:=⟨_,rfl⟩;have ay:=Z bQ;clear bQ;go_cut [74] (fun ck aU=>ck=.bool aC∧aU=bA);case first=>
  by_cases I:bf=bg
  ·rw[At I]at aV;subst aV;by_cases K:aU=bh
   ·rw[At K]at aW;subst aW;by_cases aT:a6=a8
    ·subst aT;by_cases bc:aK=aL
     ·subst bc;by_cases bB:a7=a9
      ·subst bB;by_cases az:z.length=X.length
       ·have cE:((z.length:Int) !=(X.length:Int))=false:=(by rw[az];simp);have cF:(z.length !=X.length)=false:=(by rw[az];simp);by_cases aD:F.length=aa.length
        ·have cG:((F.length:Int) !=(aa.length:Int))=false:=(by rw[aD];simp);have cH:(F.length !=aa.length)=false:=(by rw[aD];simp);by_cases aI:G.length=ab.length
         ·have cI:((G.length:Int) !=(ab.length:Int))=false:=(by rw[aI];simp);have cJ:(G.length !=ab.length)=false:=(by rw[aI];simp);have M:=Z (show aC=false by rw[←ay.out,At ⟨I,K,rfl,rfl,rfl,az,aD,aI⟩];rfl);clear I K az aD aI;exact Z1U
         ·have M:=Z (show aC=true by rw[←ay.out,Aq (fun h=>aI h.2.2.2.2.2.2.2)];rfl);have bd:((G.length:Int) !=(ab.length:Int))=true:=JG (by omega);have bC:(G.length !=ab.length)=true:=JG aI;clear I K az aD aI;exact Z1U
        ·have M:=Z (show aC=true by rw[←ay.out,Aq (fun h=>aD h.2.2.2.2.2.2.1)];rfl);have bd:((F.length:Int) !=(aa.length:Int))=true:=JG (by omega);have bC:(F.length !=aa.length)=true:=JG aD;clear I K az aD;exact Z1U
       ·have M:=Z (show aC=true by rw[←ay.out,Aq (fun h=>az h.2.2.2.2.2.1)];rfl);have bd:((z.length:Int) !=(X.length:Int))=true:=JG (by omega);have bC:(z.length !=X.length)=true:=JG az;clear I K az;exact Z1U
      ·have M:=Z (show aC=true by rw[←ay.out,Aq (fun h=>bB h.2.2.2.2.1)];rfl);have bd:(a7==a9)=false:=Ba bB;have bC:(a7 !=a9)=true:=(by rw[bne,bd];rfl);clear I K bB;exact Z1U
     ·have M:=Z (show aC=true by rw[←ay.out,Aq (fun h=>bc h.2.2.2.1)];rfl);have aM:((ByteArray.mk aK.toArray)==⟨aL.toArray⟩)=false:=(by rw[IA,beq_eq_false_iff_ne];exact bc);have bI:((ByteArray.mk aK.toArray) !=⟨aL.toArray⟩)=true:=(by rw[bne,aM];rfl);have bR:(aK==aL)=false:=(by rw[beq_eq_false_iff_ne];exact bc);have bS: ¬(ByteArray.mk aK.toArray=⟨aL.toArray⟩):=fun e=>bc (My.1 e)
      clear I K bc;exact Z1U
    ·have M:=Z (show aC=true by rw[←ay.out,Aq (fun h=>aT h.2.2.1)];rfl);have bd:(a6==a8)=false:=Ba aT;have bC:(a6 !=a8)=true:=(by rw[bne,bd];rfl);clear I K aT;exact Z1U
   ·have M:=Z (show aC=true by rw[←ay.out,Aq (fun h=>K h.2.1)];rfl);rw[Aq K]at aW;subst aW;clear I K;exact Z1U
  ·have M:=Z (show aC=true by rw[←ay.out,Aq (fun h=>I h.1)];rfl);rw[Aq I]at aV;subst aV;clear I;exact Z1U
 case rest=>
  obtain⟨rfl,cl⟩:=hcut;subst cl;obtain⟨bA,cm⟩: ∃x,x=wc:=⟨_,rfl⟩;subst cm;cases aC with
  |true=>
   have aY:=Z (show R=false by
    rw[←be.out,decide_eq_false_iff_not];intro e;injection e with aZ a0 cn co cp cq cr cs;have:=ay.out;rw[At ⟨co,cp,aZ,a0,cn,by rw[cq],by rw[cr],by rw[cs]⟩]at this;cases this)
   clear aV aW;go_wp2_with fail;go_ret;exact⟨by rw[aY.out];try rfl,L.out⟩
  |false=>
   have ct:bf=bg∧aU=bh∧a6=a8∧aK=aL∧a7=a9∧z.length=X.length∧F.length=aa.length∧G.length=ab.length:=by
    have:=ay.out;rw[Bool.not_eq_false',decide_eq_true_eq]at this;exact this
   obtain⟨rfl,rfl,rfl,rfl,rfl,az,aD,aI⟩:=ct;have bT:=Z az;have bU:=Z aD;have bV:=Z aI;clear az aD aI aV aW ay;go_wp2_with fail;go_loopg [7] (z.length+1) (fun g bj wr=> ∃i:Nat,bj=.int .i64 i∧i≤z.length∧g+i=z.length+1∧z.take i=X.take i∧bA.grownBy wr none);case atStart=>exact⟨0,rfl,DM _,rfl,rfl,AB _ none⟩
   case round=>
    obtain⟨i,rfl,aE,aF,aN,N⟩:=hrel;have aO:=Z (A8 aE aF);have aJ:=Z N;have aP:=Z aN;have O:=Z (J.out.grown N);clear ad ae af ag ah ai aj ak al am an ao ap aq ar au aw ax aN;obtain⟨ad,ae,af,ag,ah,ai,aj,ak,al⟩:=CF O.out.ba;obtain⟨am,an,ao,ap,aq,ar,au,aw,ax⟩:=CF O.out.bb;obtain⟨aQ,aR,aS⟩:=bF.out;by_cases h:i<z.length
    ·have q:decide ((i:Int)<(z.length:Int))=true:=At (by omega);have bk:decide (i<z.length)=true:=At h;have ac:i<X.length:=(by rw[←bT.out];exact h);have bl:(0:Int)≤(i:Int)∧(i:Int)<((z.length:Nat):Int):=(by omega);have bm:(0:Int)≤(i:Int)∧(i:Int)<((X.length:Nat):Int):=(by omega);have bn:(i:Int)+1≤9223372036854775807:=(by omega);obtain⟨bW,bX,aZ,bo,aG,a1,a2⟩:=MY.get O.out.nx.DB i h;obtain⟨bY,bZ,a0,bp,aH,s1,s2⟩:=MY.get O.out.ny.DB i ac;subst aZ a0;simp only[]at aG a1 a2 aH s1 s2;obtain⟨x,hx⟩: ∃x,z[i]=x:=⟨_,rfl⟩;obtain⟨y,hy⟩: ∃y,X[i]=y:=⟨_,rfl⟩;rw[hx]at aG a1 a2;rw[hy]at aH s1 s2;unfold sv at a1 a2 s1 s2;clear aE aF N aQ aR aS;by_cases aA:x=y
     ·subst aA;have bq:=Z (show z.take (i+1)=X.take (i+1) by rw[List.take_succ_eq_append_getElem h,List.take_succ_eq_append_getElem ac,aP.out,hx,hy]);have br:=Z h;clear hx hy h ac;go_upto_region 8 with(fail);go_quiet (fail);exact Z1V
     ·have aY:=Z (show¬z=X from fun e=>by
       subst e;exact aA (hx.symm.trans hy))
      have a3:=Z (show R=false by
       rw[←be.out,decide_eq_false_iff_not];intro e;injection e;exact aY.out (by assumption))
      clear hx hy h ac;obtain⟨bs,a4,bt⟩:=x;obtain⟨bu,a5,bv⟩:=y;simp only[]at aG a1 a2 aH s1 s2;have cu:bs≠bu∨(bs=bu∧a4≠a5)∨(bs=bu∧a4=a5∧bt≠bv):=by
       by_cases a:bs=bu
       ·by_cases b:a4=a5
        ·exact .inr (.inr ⟨a,b,fun c=>aA (by rw[a,b,c])⟩)
        ·exact .inr (.inl ⟨a,b⟩)
       ·exact .inl a
      clear aA;rcases cu with aB|⟨rfl,aB⟩|⟨rfl,rfl,aB⟩
      ·have aM:(bs==bu)=false:=Ba aB;exact Z1T
      ·have aM:((ByteArray.mk a4.toArray)==⟨a5.toArray⟩)=false:=(by rw[IA,beq_eq_false_iff_ne];exact aB);have bI:((ByteArray.mk a4.toArray) !=⟨a5.toArray⟩)=true:=(by rw[bne,aM];rfl);have bR:(a4==a5)=false:=(by rw[beq_eq_false_iff_ne];exact aB);have bS: ¬(ByteArray.mk a4.toArray=⟨a5.toArray⟩):=fun e=>aB (My.1 e)
       exact Z1T
      ·have aM:((ByteArray.mk bt.toArray)==⟨bv.toArray⟩)=false:=(by rw[IA,beq_eq_false_iff_ne];exact aB);have bI:((ByteArray.mk bt.toArray) !=⟨bv.toArray⟩)=true:=(by rw[bne,aM];rfl);have bR:(bt==bv)=false:=(by rw[beq_eq_false_iff_ne];exact aB);have bS: ¬(ByteArray.mk bt.toArray=⟨bv.toArray⟩):=fun e=>aB (My.1 e)
       exact Z1T
    ·have q:decide ((i:Int)<(z.length:Int))=false:=Aq (by omega);have bk:decide (i<z.length)=false:=Aq h;have cv:=Z (show z=X by
      have:=aP.out;rw[show i=z.length by omega,List.take_length,bT.out,List.take_length]at this;exact this)
     have L:=Z (AI L.out N);have J:=O;obtain⟨cw,cx⟩: ∃x,x=wr:=⟨_,rfl⟩;subst cx;clear aE aF N h aQ aR aS;go_wp2_with fail;go_loopg [8] (F.length+1) (fun g bj wr=> ∃i:Nat,bj=.int .i64 i∧i≤F.length∧g+i=F.length+1∧F.take i=aa.take i∧cw.grownBy wr none);case atStart=>exact⟨0,rfl,DM _,rfl,rfl,AB _ none⟩
     case round=>
      obtain⟨i,rfl,aE,aF,aN,N⟩:=hrel;have aO:=Z (A8 aE aF);have aJ:=Z N;have aP:=Z aN;have O:=Z (J.out.grown N);clear ad ae af ag ah ai aj ak al am an ao ap aq ar au aw ax aN;obtain⟨ad,ae,af,ag,ah,ai,aj,ak,al⟩:=CF O.out.ba;obtain⟨am,an,ao,ap,aq,ar,au,aw,ax⟩:=CF O.out.bb;obtain⟨aQ,aR,aS⟩:=bF.out;by_cases h:i<F.length
      ·have q:decide ((i:Int)<(F.length:Int))=true:=At (by omega);have bk:decide (i<F.length)=true:=At h;have ac:i<aa.length:=(by rw[←bU.out];exact h);have bl:(0:Int)≤(i:Int)∧(i:Int)<((F.length:Nat):Int):=(by omega);have bm:(0:Int)≤(i:Int)∧(i:Int)<((aa.length:Nat):Int):=(by omega);have bn:(i:Int)+1≤9223372036854775807:=(by omega);obtain⟨bW,bX,u1,aZ,bo,aG,bx⟩:=E4.get O.out.nx.AS i h;obtain⟨bY,bZ,u2,a0,bp,aH,bz⟩:=E4.get O.out.ny.AS i ac;subst aZ a0;simp only[]at aG aH bx bz;obtain⟨x,hx⟩: ∃x,F[i]=x:=⟨_,rfl⟩;obtain⟨y,hy⟩: ∃y,aa[i]=y:=⟨_,rfl⟩;rw[hx]at bx;rw[hy]at bz;obtain⟨cK,cL,rfl,_,_⟩:=CQ.at_ bx;obtain⟨z3,cM,rfl,_,_⟩:=CQ.at_ bz;have bD:=Z (fun m=>bE.out _ _ _ _ (wr.drewN m) (CQ.pf bx (PF.AL (n0:=n0) (Br m))) (CQ.pf bz (PF.AL (n0:=n0) (Br m))));clear bx bz;clear aE aF N aQ aR aS;by_cases aA:x=y
       ·subst aA;have bq:=Z (show F.take (i+1)=aa.take (i+1) by rw[List.take_succ_eq_append_getElem h,List.take_succ_eq_append_getElem ac,aP.out,hx,hy]);have br:=Z h;clear hx hy h ac;have bJ:=Z (fun m=>by have:=bD.out m;rw[At rfl]at this;exact this);clear bD;go_upto_region 13 with(fail);go_quiet (first|(go_at_call 74;exact Calls.quiet_of (bJ.out _)));exact Z1V
       ·have aY:=Z (show¬F=aa from fun e=>by
         subst e;exact aA (hx.symm.trans hy))
        have a3:=Z (show R=false by
         rw[←be.out,decide_eq_false_iff_not];intro e;injection e;exact aY.out (by assumption))
        clear hx hy h ac;have bJ:=Z (fun m=>by have:=bD.out m;rw[Aq aA]at this;exact this);clear bD;go_upto_region 13 with(fail);go_quiet (first|(go_at_call 74;exact Calls.quiet_of (bJ.out _)));exact Z1W
      ·have q:decide ((i:Int)<(F.length:Int))=false:=Aq (by omega);have bk:decide (i<F.length)=false:=Aq h;have cy:=Z (show F=aa by
        have:=aP.out;rw[show i=F.length by omega,List.take_length,bU.out,List.take_length]at this;exact this)
       have L:=Z (AI L.out N);have J:=O;obtain⟨cz,cA⟩: ∃x,x=wr:=⟨_,rfl⟩;subst cA;clear aE aF N h aQ aR aS;go_wp2_with fail;go_loopg [10] (G.length+1) (fun g bj wr=> ∃i:Nat,bj=.int .i64 i∧i≤G.length∧g+i=G.length+1∧G.take i=ab.take i∧cz.grownBy wr none);case atStart=>exact⟨0,rfl,DM _,rfl,rfl,AB _ none⟩
       case round=>
        obtain⟨i,rfl,aE,aF,aN,N⟩:=hrel;have aO:=Z (A8 aE aF);have aJ:=Z N;have aP:=Z aN;have O:=Z (J.out.grown N);clear ad ae af ag ah ai aj ak al am an ao ap aq ar au aw ax aN;obtain⟨ad,ae,af,ag,ah,ai,aj,ak,al⟩:=CF O.out.ba;obtain⟨am,an,ao,ap,aq,ar,au,aw,ax⟩:=CF O.out.bb;obtain⟨aQ,aR,aS⟩:=bF.out;by_cases h:i<G.length
        ·have q:decide ((i:Int)<(G.length:Int))=true:=At (by omega);have bk:decide (i<G.length)=true:=At h;have ac:i<ab.length:=(by rw[←bV.out];exact h);have bl:(0:Int)≤(i:Int)∧(i:Int)<((G.length:Nat):Int):=(by omega);have bm:(0:Int)≤(i:Int)∧(i:Int)<((ab.length:Nat):Int):=(by omega);have bn:(i:Int)+1≤9223372036854775807:=(by omega);obtain⟨bW,bX,aZ,bo,aG⟩:=E0.get O.out.nx.kids i h;obtain⟨bY,bZ,a0,bp,aH⟩:=E0.get O.out.ny.kids i ac;subst aZ a0;simp only[]at aG aH;obtain⟨x,hx⟩: ∃x,G[i]=x:=⟨_,rfl⟩;obtain⟨y,hy⟩: ∃y,ab[i]=y:=⟨_,rfl⟩;rw[hx]at aG;rw[hy]at aH;clear aE aF N aQ aR aS;by_cases aA:x=y
         ·subst aA;have bq:=Z (show G.take (i+1)=ab.take (i+1) by rw[List.take_succ_eq_append_getElem h,List.take_succ_eq_append_getElem ac,aP.out,hx,hy]);have br:=Z h;clear hx hy h ac;go_upto_region 19 with(fail);go_quiet (fail);exact Z1V
         ·have aY:=Z (show¬G=ab from fun e=>by
           subst e;exact aA (hx.symm.trans hy))
          have a3:=Z (show R=false by
           rw[←be.out,decide_eq_false_iff_not];intro e;injection e;exact aY.out (by assumption))
          clear hx hy h ac;have aM:(x==y)=false:=(by rw[beq_eq_false_iff_ne];exact aA);have bI:(x !=y)=true:=(by rw[bne,aM];rfl);go_upto_region 19 with(fail);go_quiet (fail);exact Z1W
        ·have q:decide ((i:Int)<(G.length:Int))=false:=Aq (by omega);have bk:decide (i<G.length)=false:=Aq h;have cB:=Z (show G=ab by
          have:=aP.out;rw[show i=G.length by omega,List.take_length,bV.out,List.take_length]at this;exact this)
         have L:=Z (AI L.out N);have J:=O;obtain⟨cN,cC⟩: ∃x,x=wr:=⟨_,rfl⟩;subst cC;clear aE aF N h aQ aR aS;go_wp2_with fail;go_ret;exact⟨by rw[←be.out,At (by rw[cv.out,cy.out,cB.out])];try rfl,L.out⟩
end
section
open Go.RowKit Lx
theorem Mf (n0:Nat) (a b:List V) (v u:Value) (w:World) (F:DZ n0 w v a) (G:DZ n0 w u b):Calls Tryz.prog 17 #[v,u] w fun e w'=>e=.returned (.bool (decide (a=b)))∧w.grownBy w' none:=by
 have af:=Z (fun x y a b r p k ar au aw ax ay az F G=>Ns n0 x y a b r p k ar au aw ax ay az F G);obtain⟨aO,aP,rfl,aQ⟩:=F.form;obtain⟨aR,aS,rfl,aT⟩:=G.form;have aA:=Z F;have aB:=Z G;have aU:(a.length:Int)≤9223372036854775807:=(by omega);have aV:(b.length:Int)≤9223372036854775807:=(by omega);clear F G;unfold AT sv at af;by_cases h:a.length=b.length
 ·have aC:((a.length:Int) !=(b.length:Int))=false:=(by rw[h];simp);have aD:(a.length !=b.length)=false:=(by rw[h];simp);have ag:=Z h;clear h;go_enter Tryz.func17,Tryz.ntmps17;go_wp2_with fail;go_loopg [5] (a.length+1) (fun g N wr=> ∃i:Nat,N=.int .i64 i∧i≤a.length∧g+i=a.length+1∧a.take i=b.take i∧w.grownBy wr none);case atStart=>exact⟨0,rfl,DM _,rfl,rfl,AB w none⟩
  case round=>
   obtain⟨i,rfl,O,W,ah,I⟩:=hrel;have ai:=Z (A8 O W);have aj:=Z I;have ak:=Z ah;clear ah;by_cases J:i<a.length
   ·have q:decide ((i:Int)<(a.length:Int))=true:=At (by omega);have aE:decide (i<a.length)=true:=At J;have al:i<b.length:=(by rw[←ag.out];exact J);have aW:(0:Int)≤(i:Int)∧(i:Int)<((a.length:Nat):Int):=(by omega);have aX:(0:Int)≤(i:Int)∧(i:Int)<((b.length:Nat):Int):=(by omega);have aY:(i:Int)+1≤9223372036854775807:=(by omega);obtain⟨aZ,a0,a1,a2,a3,a4,a5,a6,X,-,-,a7,L,u0,u1,u2,u3,u4,u5,u6,u7⟩:=(DZ.pf aA.out (PF.AL (n0:=n0) I)).at_ i J;obtain⟨a8,a9,a',ba,bb,bc,bd,be,aa,-,-,bf,M,am,ab,an,aF,aG,N,aH,aI⟩:=(DZ.pf aB.out (PF.AL (n0:=n0) I)).at_ i al;injection X with X _ aJ;injection aa with aa _ aK;subst X aa aJ aK;obtain⟨x,hx⟩: ∃x,a[i]=x:=⟨_,rfl⟩;obtain⟨y,hy⟩: ∃y,b[i]=y:=⟨_,rfl⟩;rw[hx]at L u0 u1 u2;rw[hy]at M am ab an;have ao:=Z (fun m=>af.out _ _ _ _ _ _ _ _ _ _ _ _ (wr.drewN m) (FP.pf L (PF.AL (n0:=n0) (Br m))) (FP.pf M (PF.AL (n0:=n0) (Br m))));obtain⟨bg,bh,bi,bj,bk,bl,bm,bn,bo,bp,rfl,rfl,rfl,rfl,rfl⟩:=L.C1;obtain⟨bq,br,bs,bt,bu,bv,bw,bx,bz,bA,rfl,rfl,rfl,rfl,rfl⟩:=M.C1;unfold sv at u1 ab;clear O W I L M;obtain⟨aL,ac⟩: ∃s,decide (x=y)=s:=⟨_,rfl⟩;rw[ac]at ao;have z:=Z (A8 hx (A8 hy ac));have ad:=Z (A8 J al);clear hx hy ac;go_upto_region 6 with(fail);refine Bf 8 (by kernel_rfl) (by kernel_rfl) ?_;simp only[List.take_succ_cons,List.take_zero,List.drop_succ_cons,List.drop_zero];repeat(go_big_quiet_step (fail))
    refine wpQuiet_nil ?_;rintro _ ⟨nq,rfl⟩;clear u0 u1 u2 u3 u4 u5 u6 u7 am ab an aF aG N aH aI;go_wp2_with fail;refine(ao.out nq).mono ?_;rintro e bB ⟨rfl,ap⟩;have aq:=Z (AI aj.out (AI (Br nq) ap));clear ap;cases aL with
    |true=>
     have aM:=Z (show a.take (i+1)=b.take (i+1) by
      have K:=z.out.2.2;rw[decide_eq_true_eq]at K;rw[List.take_succ_eq_append_getElem ad.out.1,List.take_succ_eq_append_getElem ad.out.2,ak.out,z.out.1,z.out.2.1,K])
     go_wp2_with fail;go_roundg (gk-1);case rel=>exact⟨i+1,by rw[Int.natCast_add];rfl,ad.out.1,by have:=ai.out;omega,aM.out,aq.out⟩
     case measure=>have:=ai.out;omega
    |false=>
     have ae:=Z (show decide (a=b)=false by
      rw[decide_eq_false_iff_not];intro e;subst e;have K:=z.out.2.2;rw[decide_eq_false_iff_not]at K;exact K (z.out.1.symm.trans z.out.2.1))
     go_wp2_with fail;go_ret;exact⟨by rw[ae.out];try rfl,aq.out⟩
   ·have q:decide ((i:Int)<(a.length:Int))=false:=Aq (by omega);have aE:decide (i<a.length)=false:=Aq J;have aN:=Z (show decide (a=b)=true by
     rw[decide_eq_true_eq];have:=ak.out;rw[show i=a.length by omega,List.take_length,ag.out,List.take_length]at this;exact this)
    clear O W I;go_wp2_with fail;go_ret;exact⟨by rw[aN.out];try rfl,aj.out⟩
 ·have aC:((a.length:Int) !=(b.length:Int))=true:=JG (by omega);have aD:(a.length !=b.length)=true:=JG h;have ae:=Z (show decide (a=b)=false by
   rw[decide_eq_false_iff_not];intro e;rw[e]at h;exact h rfl)
  go_enter Tryz.func17,Tryz.ntmps17;go_wp2_with fail;go_ret;exact⟨by rw[ae.out];try rfl,AB _ _⟩
end
end Go.Proofs.YtdhfhphbkfgamaaGreat
