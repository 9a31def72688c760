/- A part. -/
import Derived.Test.YtdhfhphbkfgamaaGreatUh
set_option maxRecDepth 100000
set_option linter.all false
set_option maxHeartbeats 0
namespace Go.Proofs.YtdhfhphbkfgamaaGreat
section
open Go.RowKit Lx Proofs.Tryz
theorem Gj{w w':World}{e:TypeId}{size n k:Nat}{v:Value}{xs:List Value}(h:w.grownBy w' none)(z:Own w e size v n xs k):Own w' e size v n xs k:=
 z.Bo (S:=fun _=>False) (Az.AL h (fun k hk=>by cases hk)) (fun _ _ h=>h)
theorem J5{w a b:World}{S:Nat->Prop}(h:w.grownBy a none)(z:Az S a b)(F:∀k,S k->w.heap.size<=k):w.grownBy b none:=
 ((Az.AL (S:=fun k=>w.heap.size<=k) h (fun k hk=>by cases hk)).trans z (fun i G hs=>F i hs)).grown fun k hk hs=>by omega
section
variable {l:List V}{bs:List Nat}{i f:Nat}
theorem Ru(h:Fs (l.take i) []=some bs)(z:bs.length=i)(F:i<l.length)(hk:Ef bs (l[i].kind==14) l[i].kids.reverse i=some f):Fs (l.take (i+1)) []=some (bs++[f]):=by
 rw[Du F,IP,h];show(match Ef bs (l[i].kind==14) l[i].kids.reverse bs.length with|some b=>Fs [] (bs++[b])|none=>none)=_;rw[z,hk];rfl
theorem Rc(h:Fs (l.take i) []=some bs)(z:bs.length=i)(F:i<l.length)(hk:Ef bs (l[i].kind==14) l[i].kids.reverse i=none):EI l=false:=by
 have:Fs l []=none:=by
  rw[<-List.take_append_drop i l,IP,h,List.drop_eq_getElem_cons F];show(match Ef bs (l[i].kind==14) l[i].kids.reverse bs.length with|some b=>Fs _ (bs++[b])|none=>none)=_;rw[z,hk]
 unfold EI;rw[this];simp
theorem Ti(z:Fs l []=some bs)(F:1<=l.length)(G:l.length<=300)(h:bs.length=l.length):EI l=(bs.getD (l.length-1) 0==0):=by
 unfold EI;rw[z,Au F,Au G,Bool.and_self,Bool.true_and];show(bs.getLastD 1==0)=_;congr 1
 cases bs with
 |nil=>simp at h;omega
 |cons b r=>
  rw[<-h,List.getLastD_eq_getLast?,List.getLast?_eq_getElem?,EK];have I:(b::r).length-1<(b::r).length:=(by simp);rw[CZ I];rfl
end
theorem OP(n0:Nat)(l:List V)(v:Value)(w:World)(F:Dj n0 w v l):Calls prog 14 #[v] w fun e w'=>e=.returned (.bool (EI l))/\w.grownBy w' none:=by
 obtain⟨bM,bN,rfl,a'⟩:=F.form;have aK:=Z F;obtain⟨h,au⟩:=U l.length;rw[au]at a' aK⊢;have I:=Z au;clear F au;by_cases ak:1<=h/\h<=300
 ·have aL:decide ((h:Int)<1)=false:=As (by omega);have ba:decide ((300:Int)<(h:Int))=false:=As (by omega);have aM:decide (h<1)=false:=As (by omega);have bb:decide (300<h)=false:=As (by omega);have aw:=Z ak;have bc:=Z (Own.nil w 3 1 0);have bd:(h:Int)<=300:=(by omega);clear ak;go_enter func14,ntmps14;go_wp2_with fail;go_loopg [3,4] h (fun g aN be wr=> ∃(i:Nat) (bs:List Nat),be=.int .i64 i/\i<=h/\h-i<=g/\bs.length=i/\Fs (l.take i) []=some bs/\(∀j,j<i->bs.getD j 0<=j)/\Own wr 3 1 aN i (bs.map fun b:Nat=>Value.int .i64 (b:Int)) 0/\(∀b,aN.ownBlock=some b->w.heap.size<=b)/\w.grownBy wr none);case atStart=>exact⟨0,[],rfl,DD _,BN _,rfl,rfl,fun j F=>Aj F (Nat.not_lt_zero j),bc.out,(fun b ad=>by cases ad),AB _ _⟩
  case round=>
   obtain⟨i,bs,rfl,bO,aO,aP,aQ,aR,al,aS,ax⟩:=hrel;obtain⟨bf,rfl⟩:=JH gk;have aT:=Z aO;have W:=Z ax;have aU:=Z al;have aV:=Z aS;have K:=Z aP;have ay:=Z aQ;have aW:=Z aR;have bd:=aw.out.2;clear aO aS aP aQ aR;by_cases az:i<h
   ·have bg:decide ((i:Int)<(h:Int))=true:=Au (by omega);have bP:decide (i<h)=true:=Au az;have aa:i<l.length:=(by have:=I.out;omega);obtain⟨g,bQ,bR,a,b,bS,p,k,bh,-,-,bT,aA,am,-,-,-,-,-,-,aB⟩:=(aK.out.pf (PF.AL (n0:=n0) ax)).at_ i aa;injection bh with bi bj bk;subst bi;subst bk;clear bj;obtain⟨n,aC⟩:=U (l[i]);rw[aC]at aA am;have an:=aA.kids;obtain⟨bU,bV,rfl,bl,ao⟩:=an.at_;obtain⟨ab,aD⟩:=U n.kids.length;obtain⟨bm,L⟩:=U n.kind;rw[aD]at aB an ao;rw[L]at am;have bW:(0:Int)<=(i:Int)/\(i:Int)<(h:Int):=(by omega);have ae:=Z (BC (show∀F:i<l.length,l[i]=n from fun _=>aC) (BC aD L));have ac:=Z az;have bn:=Z an;have bX:(0:Int)<=(ab:Int):=(by omega);have bY:(ab:Int)<=9223372036854775807:=(by omega);clear aC aD L aA an al az aa bl ao;have bZ:=Z am;have b0:=Z aB;go_wp2_with fail;go_loopg [5,6] ab (fun bo bp bq br=> ∃r f:Nat,bq=.int .i64 ((r:Int)-1)/\r<=ab/\r<=bo/\bp=.int .i64 f/\f<=i/\Ef bs (n.kind==14) (n.kids.take r).reverse f=Ef bs (n.kind==14) n.kids.reverse i/\br=wr);case atStart=>exact⟨ab,i,rfl,BN _,BN _,rfl,BN _,by have F:=ae.out.2.1;rw[<-F,Dw],rfl⟩
    case round=>
     obtain⟨r,f,rfl,b1,aX,rfl,aY,aZ,bt⟩:=hrel;subst bt;have a0:=Z aZ;have ap:=Z aX;clear aZ aX;by_cases a1:r=0
     ·subst a1;have aa:i<l.length:=(by have:=I.out;have:=ac.out;omega);have a2:Ef bs (l[i].kind==14) l[i].kids.reverse i=some f:=by
       have z:=a0.out;rw[List.take_zero,List.reverse_nil,Ef]at z;have X:=ae.out.1 aa;rw[X];exact z.symm
      have bu:=Z (Ru ay.out K.out aa a2);have bv:=Z aY;rw[show(((0:Nat):Int)-1)= -1 from rfl];clear am aB a2 aa;go_wp2_with (at_builtin;refine AV 3 (.int .i64 0) 1 8 underlying30 Ba rfl _ i (bs.map fun b:Nat=>Value.int .i64 (b:Int)) 0 _ 1 [.int .i64 (f:Int)] rfl rfl (Own.alloc aU.out _) (by omega) (KR _ _ (f:Int) rfl) (by unfold maxLen;omega) (by omega) ?_;intro b2 b3 a3 a4 a5 _;(have bw:=Z a3;have bx:=Z a4;have bz:=Z a5;clear a3 a4 a5));go_roundg (bf-1);case rel=>
       refine⟨i+1,bs++[f],by go_num,by have:=ac.out;omega,by have:=aT.out;omega,by rw[BG,K.out];rfl,bu.out,?_,?_,?_,?_⟩
       ·intro j b4;by_cases bA:j<i
        ·rw[EK,Gx (by have:=K.out;omega),<-EK];exact aW.out j bA
        ·obtain rfl:j=i:=by omega
         rw[EK,Ig (by have:=K.out;omega),K.out,Nat.sub_self];exact bv.out
       ·rw[FN];exact bw.out
       ·intro b ad;rcases bz.out b ad with F|F
        ·exact aV.out b F
        ·exact E0 (AF W.out (.cells #[.int .i64 (f:Int)] 3)).size F
       ·exact J5 (AF W.out _) bx.out (fun k hk=>aV.out k hk)
      case measure=>have:=aT.out;have:=ac.out;omega
     ·obtain⟨r,rfl⟩:∃q,r=q+1:=⟨r-1,by omega⟩;have aE:r<n.kids.length:=(by have:=ae.out.2.1;omega);obtain⟨G,aF⟩:=U (n.kids[r]);have a6:(n.kids.take (r+1)).reverse=G::(n.kids.take r).reverse:=by
       rw[Du aE,List.reverse_append,List.reverse_singleton,aF];rfl
      have a7:=Z (by have:=a0.out;rw[a6,Ef]at this;exact this);obtain⟨b5,b6,bB,b7,bC⟩:=E9.get bn.out r aE;subst bB;rw[aF]at bC;rw[show(((r+1:Nat):Int)-1)=(r:Int) by omega];have b8:(0:Int)<=(r:Int)/\(r:Int)<(ab:Int):=(by omega);have b9:decide ((0:Int)<=(r:Int))=true:=Au (by omega);have L:=ae.out.2.2;clear a6 aF a1 aE;by_cases af:G= -1/\(n.kind==14)=true
      ·obtain⟨rfl,a8⟩:=af;have aG:=Z (by have:=a7.out;rw[Ai ⟨rfl,a8⟩]at this;exact this);rw[L]at a8;clear L;go_wp2_with fail;go_roundg (gk-1);case rel=>exact⟨r,f,rfl,by omega,by have:=ap.out;omega,rfl,aY,aG.out,rfl⟩
       case measure=>have:=ap.out;omega
      ·have z:=a7.out;rw[AP af]at z;have a9:((G== -1)=false)\/((G== -1)=true/\(bm==14)=false):=by
        by_cases ag:G= -1
        ·refine .inr ⟨Xa ag,?_⟩;rw[<-L];cases ad:n.kind==14 with
         |true=>exact Aj ⟨ag,ad⟩ af
         |false=>rfl
        ·exact .inl (Bd ag)
       by_cases M:f=0\/G≠(f:Int)-1
       ·rw[Ai M]at z;have aq:=Z (show EI l=false from Rc (i:=i) ay.out K.out (by have:=I.out;have:=ac.out;omega) (by have F:=ae.out.1 (by have:=I.out;have:=ac.out;omega);rw[F];exact z.symm));clear z af L;rcases a9 with ag|⟨ag,b'⟩
        ·by_cases J:f=0
         ·subst J;clear M;go_wp2_with fail;go_ret;exact⟨by rw[aq.out];rfl,W.out⟩
         ·have X:G≠(f:Int)-1:=M.resolve_left J;have aH:((f:Int)==0)=false:=Bd (by omega);have bD:(G !=(f:Int)-1)=true:=JY X;clear M J;go_wp2_with fail;go_ret;exact⟨by rw[aq.out];rfl,W.out⟩
        ·by_cases J:f=0
         ·subst J;clear M;go_wp2_with fail;go_ret;exact⟨by rw[aq.out];rfl,W.out⟩
         ·have X:G≠(f:Int)-1:=M.resolve_left J;have aH:((f:Int)==0)=false:=Bd (by omega);have bD:(G !=(f:Int)-1)=true:=JY X;clear M J;go_wp2_with fail;go_ret;exact⟨by rw[aq.out];rfl,W.out⟩
       ·rw[AP M]at z;obtain⟨m,ah⟩:=U (f-1);have bE:(f:Int)-1=(m:Int):=(by omega);have ao:G=(m:Int):=(by omega);subst ao;have aH:((f:Int)==0)=false:=Bd (by omega);have ca:((m:Int)== -1)=false:=Bd (by omega);have bF:(0:Int)<=(m:Int)/\(m:Int)<(i:Int):=(by omega);obtain⟨aI,aJ,bG,rfl,_,_,bH,ai⟩:=aU.out.some_ (by omega);obtain⟨N,O⟩:=U (bs.getD m 0);have bI:N<=i:=(by have:=aW.out m (by omega);omega);have bJ:wr.cell? ⟨aI,aJ+m,none⟩=some (.int .i64 N):=by
         rw[ai m (by omega),II];have aj:m<bs.length:=(by have:=K.out;have:=ac.out;omega);rw[EK,CZ aj]at O;rw[CZ aj,<-O];rfl
        rw[ah,O]at z;have aG:=Z z;clear L z M af ah O ai a9;go_wp2_with fail;go_roundg (gk-1);case rel=>exact⟨r,N,rfl,by omega,by have:=ap.out;omega,rfl,bI,aG.out,rfl⟩
        case measure=>have:=ap.out;omega
   ·obtain rfl:i=h:=by omega
    have bg:decide ((i:Int)<(i:Int))=false:=As (by omega);obtain⟨aI,aJ,bG,rfl,_,_,bH,ai⟩:=al.some_ (by have:=aw.out;omega);obtain⟨m,ah⟩:=U (i-1);have bK:=aw.out.1;have bE:(i:Int)-1=(m:Int):=(by omega);have bF:(0:Int)<=(m:Int)/\(m:Int)<(i:Int):=(by omega);obtain⟨N,O⟩:=U (bs.getD m 0);have bJ:wr.cell? ⟨aI,aJ+m,none⟩=some (.int .i64 N):=by
     rw[ai m (by omega),II];have aj:m<bs.length:=(by have:=K.out;omega);rw[EK,CZ aj]at O;rw[CZ aj,<-O];rfl
    have ar:=Z (show EI l=(N==0) by
     have X:=ay.out;rw[<-I.out,Dw]at X;rw[Ti X (by have:=I.out;omega) (by have:=I.out;omega) (by have:=I.out;have:=K.out;omega),I.out,ah,O])
    clear al ax ai ah O bK;by_cases J:N=0
    ·subst J;go_wp2_with fail;go_ret;exact⟨by rw[ar.out];rfl,W.out⟩
    ·have aH:((N:Int)==0)=false:=Bd (by omega);have bL:=Z (show(N==0)=false from Bd J);go_wp2_with fail;go_ret;exact⟨by rw[ar.out,bL.out];rfl,W.out⟩
 ·have ar:=Z (show EI l=false by
   unfold EI;rw[I.out];by_cases z:1<=h
   ·rw[As (show¬h<=300 by omega),Bool.and_false,Bool.false_and]
   ·rw[As z,Bool.false_and,Bool.false_and])
  rw[ar.out];by_cases z:h<1
  ·have aL:decide ((h:Int)<1)=true:=Au (by omega);have aM:decide (h<1)=true:=Au z;clear ak;go_enter func14,ntmps14;go_wp2_with fail;go_ret;exact⟨rfl,AB _ _⟩
  ·have aL:decide ((h:Int)<1)=false:=As (by omega);have aM:decide (h<1)=false:=As z;have ba:decide ((300:Int)<(h:Int))=true:=Au (by omega);have bb:decide (300<h)=true:=Au (by omega);clear ak;go_enter func14,ntmps14;go_wp2_with fail;go_ret;exact⟨rfl,AB _ _⟩
end
section
open Go.RowKit Lx Proofs.Tryz
theorem M0(n0:Nat)(a b:List (List UInt8))(L M:Value)(w:World)(G:CW n0 w L a)(I:CW n0 w M b):Calls prog 74 #[L,M] w fun e w'=>e=.returned (.bool (decide (a=b)))/\ ∃m,w'=w.drewN m:=by
 obtain⟨ar,au,rfl,_,aw,_⟩:=G.now;obtain⟨ax,ay,rfl,_,az,_⟩:=I.now;have ag:=Z G;have ah:=Z I;have aA:(a.length:Int)<=9223372036854775807:=(by omega);have aB:(b.length:Int)<=9223372036854775807:=(by omega);clear G I;by_cases h:a.length=b.length
 ·have ai:((a.length:Int) !=(b.length:Int))=false:=(by rw[h];simp);have N:=Z h;clear h;go_enter func74,ntmps74;go_wp2_with fail;go_loopg [5] (a.length+1) (fun g aj wr=> ∃i:Nat,aj=.int .i64 i/\i<=a.length/\g+i=a.length+1/\a.take i=b.take i/\ ∃m,wr=w.drewN m);case atStart=>exact⟨0,rfl,DD _,rfl,rfl,0,rfl⟩
  case round=>
   obtain⟨i,rfl,J,K,O,m,rfl⟩:=hrel;have X:=Z (BC J K);have aa:=Z O;clear O;by_cases z:i<a.length
   ·have ak:decide ((i:Int)<(a.length:Int))=true:=Au (by omega);have ab:decide (i<a.length)=true:=Au z;have ac:i<b.length:=(by rw[<-N.out];exact z);have aC:(0:Int)<=i/\(i:Int)<(a.length:Int):=(by omega);have aD:(0:Int)<=i/\(i:Int)<(b.length:Int):=(by omega);have aE:(i:Int)+1<=9223372036854775807:=(by omega);obtain⟨aF,aG,al,aH,ad⟩:=CW.get ag.out i z;obtain⟨aI,aJ,am,aK,ae⟩:=CW.get ah.out i ac;obtain⟨x,hx⟩:=U (a[i]);obtain⟨y,hy⟩:=U (b[i]);rw[hx]at ad;rw[hy]at ae;subst al am;unfold sv at ad ae;clear J K;by_cases F:x=y
    ·subst F;have an:=Z (show a.take (i+1)=b.take (i+1) by rw[Du z,Du ac,aa.out,hx,hy]);clear hx hy;go_upto_region 6 with(fail);go_quiet (fail);go_wp2_with fail;go_roundg (gk-1);case rel=>exact⟨i+1,by rw[EP];rfl,z,by have:=X.out;omega,an.out,_,rfl⟩
     case measure=>have:=X.out;omega
    ·have ao:=Z (show decide (a=b)=false by
      rw[Ex];intro e;subst e;exact F (hx.symm.trans hy))
     clear hx hy;have ap:((ByteArray.mk x.toArray)==⟨y.toArray⟩)=false:=(by rw[Ii,A4];exact F);have aL:((ByteArray.mk x.toArray) !=⟨y.toArray⟩)=true:=(by rw[bne,ap];rfl);have aM:(x==y)=false:=(by rw[A4];exact F);have aN:¬(ByteArray.mk x.toArray=⟨y.toArray⟩):=fun e=>F (OF.1 e)
     go_upto_region 6 with(fail);go_quiet (fail);go_wp2_with fail;go_ret;exact⟨by rw[ao.out];rfl,m+nq,by rw[World.drewN_drewN]⟩
   ·have ak:decide ((i:Int)<(a.length:Int))=false:=As (by omega);have ab:decide (i<a.length)=false:=As z;have aq:=Z (show decide (a=b)=true by
     rw[Di];have:=aa.out;rw[show i=a.length by omega,Dw,N.out,Dw]at this;exact this)
    clear J K;go_wp2_with fail;go_ret;exact⟨by rw[aq.out];rfl,m,rfl⟩
 ·have ai:((a.length:Int) !=(b.length:Int))=true:=(by simp;omega);have ab:(a.length !=b.length)=true:=JY h;have af:decide (a=b)=false:=by
   rw[Ex];intro e;rw[e]at h;exact h rfl
  rw[af];clear af;go_enter func74,ntmps74;go_wp2_with fail;go_ret;exact⟨rfl,0,rfl⟩
structure QZ(n0:Nat)(W:World)(A B:Nat)(x y:V)(a b r p k a' b' r' p' k':Value):Prop where
 ba:Y W A 32 #[.int .i64 x.kind,.string ⟨x.name.toArray⟩,.bool x.A7,a,b,r,p,k]
 bb:Y W B 32 #[.int .i64 y.kind,.string ⟨y.name.toArray⟩,.bool y.A7,a',b',r',p',k']
 nx:Fk n0 W a b r p k x
 ny:Fk n0 W a' b' r' p' k' y
section
variable {n0:Nat}{W W':World}{A B:Nat}{x y:V}{a b r p k a' b' r' p' k':Value}
theorem QZ.grown(h:QZ n0 W A B x y a b r p k a' b' r' p' k')(z:W.grownBy W' none):QZ n0 W' A B x y a b r p k a' b' r' p' k':=
 ⟨Y.grown h.ba z (by simp),Y.grown h.bb z (by simp),h.nx.pf (PF.AL z),h.ny.pf (PF.AL z)⟩
theorem QZ.start{w:World}(F:Fk n0 w a b r p k x)(G:Fk n0 w a' b' r' p' k' y):QZ n0 ((w.alloc (.cells #[.int .i64 x.kind,.string ⟨x.name.toArray⟩,.bool x.A7,a,b,r,p,k] 32)).alloc (.cells #[.int .i64 y.kind,.string ⟨y.name.toArray⟩,.bool y.A7,a',b',r',p',k'] 32)) w.heap.size (w.heap.size+1) x y a b r p k a' b' r' p' k':=by
 have h:=AF (AF (AB w none) (.cells #[.int .i64 x.kind,.string ⟨x.name.toArray⟩,.bool x.A7,a,b,r,p,k] 32)) (.cells #[.int .i64 y.kind,.string ⟨y.name.toArray⟩,.bool y.A7,a',b',r',p',k'] 32);have z:=Y.new (w.alloc (.cells #[.int .i64 x.kind,.string ⟨x.name.toArray⟩,.bool x.A7,a,b,r,p,k] 32)) 32 #[.int .i64 y.kind,.string ⟨y.name.toArray⟩,.bool y.A7,a',b',r',p',k'];rw[BW]at z;exact⟨(Y.new w 32 _).alloc _,z,F.pf (PF.AL h),G.pf (PF.AL h)⟩
end
theorem Bu{w:World}(n:Nat):w.grownBy (w.drewN n) none:=At (AB w none) n
theorem OT(n0:Nat)(x y:V)(a b r p k a' b' r' p' k':Value)(w:World)(I:Fk n0 w a b r p k x)(K:Fk n0 w a' b' r' p' k' y):
  Calls prog 50 #[.agg (AU x a b r p k).toArray,.agg (AU y a' b' r' p' k').toArray] w fun e w'=>e=.returned (.bool (decide (x=y)))/\w.grownBy w' none:=by
 have bB:=Z (fun bX bY a b W I K=>M0 n0 bX bY a b W I K);have J:=Z (QZ.start I K);have L:=Z (AF (AF (AB w none) (.cells #[.int .i64 x.kind,.string ⟨x.name.toArray⟩,.bool x.A7,a,b,r,p,k] 32)) (.cells #[.int .i64 y.kind,.string ⟨y.name.toArray⟩,.bool y.A7,a',b',r',p',k'] 32));have bH:(x.AK.length:Int)<=9223372036854775807:=(by obtain⟨_,_,_,_,aS,_⟩:=I.DJ.now;omega);have bI:(x.kids.length:Int)<=9223372036854775807:=(by obtain⟨_,_,_,_,aS,_⟩:=I.kids.now;omega);have bJ:(x.AT.length:Int)<=9223372036854775807:=(by obtain⟨_,_,_,aS⟩:=FP.form I.AT;omega);have bC:=Z (BC bH (BC bI bJ));obtain⟨bZ,b0,b1,b2,b3,c3,b4,c4,b5,b6,rfl,rfl,rfl,rfl,rfl⟩:=I.C5;obtain⟨b7,d1,b8,d2,b9,d3,ca,d4,cb,d5,rfl,rfl,rfl,rfl,rfl⟩:=K.C5;clear I K bH bI bJ;obtain⟨R,bD⟩:=U (decide (x=y));rw[bD];have a9:=Z bD;clear bD;obtain⟨a3,aJ,a4,bc,aT,z,F,G⟩:=x;obtain⟨a5,aK,a6,bd,be,X,aa,ab⟩:=y;unfold AU sv;simp only[]at*;go_enter func50,ntmps50;go_upto_region 1 with(fail);generalize (w.alloc (.cells #[.int .i64 a3,.string ⟨aJ.toArray⟩,.bool a4,.slice bZ bc.length b0,.slice b1 aT.length b2,.slice b3 z.length c3,.slice b4 F.length c4,.slice b5 G.length b6] 32)).alloc (.cells #[.int .i64 a5,.string ⟨aK.toArray⟩,.bool a6,.slice b7 bd.length d1,.slice b8 be.length d2,.slice b9 X.length d3,.slice ca aa.length d4,.slice cb ab.length d5] 32)=bK,w.heap.size+1=B at J L⊢;generalize w.heap.size=A at J⊢;obtain⟨ad,ae,af,ag,ah,ai,aj,ak,al⟩:=CM J.out.ba;obtain⟨am,an,ao,ap,aq,ar,au,aw,ax⟩:=CM J.out.bb;obtain⟨tx,aU⟩:=U (decide (bc=bd));obtain⟨cv,aV⟩:=U (decide (aT=be));have bL:=Z (bB.out _ _ _ _ bK J.out.nx.AZ J.out.ny.AZ);simp only[aU]at bL;go_wp2_with fail;refine bL.out.mono ?_;rintro e bE ⟨rfl,m,bf⟩;have aW:bK.grownBy bE none:=(by rw[bf];exact Bu m);have J:=Z (J.out.grown aW);have L:=Z (AI L.out aW);clear bf aW ad ae af ag ah ai aj ak al am an ao ap aq ar au aw ax;obtain⟨ad,ae,af,ag,ah,ai,aj,ak,al⟩:=CM J.out.ba;obtain⟨am,an,ao,ap,aq,ar,au,aw,ax⟩:=CM J.out.bb;have bM:=Z (bB.out _ _ _ _ bE J.out.nx.words J.out.ny.words);simp only[aV]at bM;go_wp2_with fail;refine bM.out.mono ?_;rintro e bw ⟨rfl,m,bf⟩;have aW:bE.grownBy bw none:=(by rw[bf];exact Bu m);have J:=Z (J.out.grown aW);have L:=Z (AI L.out aW);clear bf aW ad ae af ag ah ai aj ak al am an ao ap aq ar au aw ax;obtain⟨ad,ae,af,ag,ah,ai,aj,ak,al⟩:=CM J.out.ba;obtain⟨am,an,ao,ap,aq,ar,au,aw,ax⟩:=CM J.out.bb;go_upto_region 3 with(fail);obtain⟨aC,bN⟩:=U ((!decide (bc=bd/\aT=be/\a3=a5/\aJ=aK/\a4=a6/\z.length=X.length/\F.length=aa.length/\G.length=ab.length)));have ay:=Z bN;clear bN;go_cut [74] (fun cc aT=>cc=.bool aC/\aT=bw);case first=>
  by_cases I:bc=bd
  ·rw[Au I]at aU;subst aU;by_cases K:aT=be
   ·rw[Au K]at aV;subst aV;by_cases aS:a3=a5
    ·subst aS;by_cases a7:aJ=aK
     ·subst a7;by_cases bx:a4=a6
      ·subst bx;by_cases az:z.length=X.length
       ·have cw:((z.length:Int) !=(X.length:Int))=false:=(by rw[az];simp);have cx:(z.length !=X.length)=false:=(by rw[az];simp);by_cases aD:F.length=aa.length
        ·have cy:((F.length:Int) !=(aa.length:Int))=false:=(by rw[aD];simp);have cz:(F.length !=aa.length)=false:=(by rw[aD];simp);by_cases aH:G.length=ab.length
         ·have cA:((G.length:Int) !=(ab.length:Int))=false:=(by rw[aH];simp);have cB:(G.length !=ab.length)=false:=(by rw[aH];simp);have M:=Z (show aC=false by rw[<-ay.out,Au ⟨I,K,rfl,rfl,rfl,az,aD,aH⟩];rfl);clear I K az aD aH;go_wp2_with fail;go_meet;exact⟨by rw[M.out],rfl⟩
         ·have M:=Z (show aC=true by rw[<-ay.out,As (fun h=>aH h.2.2.2.2.2.2.2)];rfl);have a8:((G.length:Int) !=(ab.length:Int))=true:=JY (by omega);have bz:(G.length !=ab.length)=true:=JY aH;clear I K az aD aH;go_wp2_with fail;go_meet;exact⟨by rw[M.out],rfl⟩
        ·have M:=Z (show aC=true by rw[<-ay.out,As (fun h=>aD h.2.2.2.2.2.2.1)];rfl);have a8:((F.length:Int) !=(aa.length:Int))=true:=JY (by omega);have bz:(F.length !=aa.length)=true:=JY aD;clear I K az aD;go_wp2_with fail;go_meet;exact⟨by rw[M.out],rfl⟩
       ·have M:=Z (show aC=true by rw[<-ay.out,As (fun h=>az h.2.2.2.2.2.1)];rfl);have a8:((z.length:Int) !=(X.length:Int))=true:=JY (by omega);have bz:(z.length !=X.length)=true:=JY az;clear I K az;go_wp2_with fail;go_meet;exact⟨by rw[M.out],rfl⟩
      ·have M:=Z (show aC=true by rw[<-ay.out,As (fun h=>bx h.2.2.2.2.1)];rfl);have a8:(a4==a6)=false:=Bd bx;have bz:(a4 !=a6)=true:=(by rw[bne,a8];rfl);clear I K bx;go_wp2_with fail;go_meet;exact⟨by rw[M.out],rfl⟩
     ·have M:=Z (show aC=true by rw[<-ay.out,As (fun h=>a7 h.2.2.2.1)];rfl);have aL:((ByteArray.mk aJ.toArray)==⟨aK.toArray⟩)=false:=(by rw[Ii,A4];exact a7);have bF:((ByteArray.mk aJ.toArray) !=⟨aK.toArray⟩)=true:=(by rw[bne,aL];rfl);have bO:(aJ==aK)=false:=(by rw[A4];exact a7);have bP:¬(ByteArray.mk aJ.toArray=⟨aK.toArray⟩):=fun e=>a7 (OF.1 e)
      clear I K a7;go_wp2_with fail;go_meet;exact⟨by rw[M.out],rfl⟩
    ·have M:=Z (show aC=true by rw[<-ay.out,As (fun h=>aS h.2.2.1)];rfl);have a8:(a3==a5)=false:=Bd aS;have bz:(a3 !=a5)=true:=(by rw[bne,a8];rfl);clear I K aS;go_wp2_with fail;go_meet;exact⟨by rw[M.out],rfl⟩
   ·have M:=Z (show aC=true by rw[<-ay.out,As (fun h=>K h.2.1)];rfl);rw[As K]at aV;subst aV;clear I K;go_wp2_with fail;go_meet;exact⟨by rw[M.out],rfl⟩
  ·have M:=Z (show aC=true by rw[<-ay.out,As (fun h=>I h.1)];rfl);rw[As I]at aU;subst aU;clear I;go_wp2_with fail;go_meet;exact⟨by rw[M.out],rfl⟩
 case rest=>
  obtain⟨rfl,cd⟩:=hcut;subst cd;obtain⟨bw,ce⟩:=JH wc;subst ce;cases aC with
  |true=>
   have aX:=Z (show R=false by
    rw[<-a9.out,Ex];intro e;injection e with aY aZ cf cg ch ci cj ck;have:=ay.out;rw[Au ⟨cg,ch,aY,aZ,cf,by rw[ci],by rw[cj],by rw[ck]⟩]at this;cases this)
   clear aU aV;go_wp2_with fail;go_ret;exact⟨by rw[aX.out];try rfl,L.out⟩
  |false=>
   have cl:bc=bd/\aT=be/\a3=a5/\aJ=aK/\a4=a6/\z.length=X.length/\F.length=aa.length/\G.length=ab.length:=by
    have:=ay.out;rw[Bool.not_eq_false',Di]at this;exact this
   obtain⟨rfl,rfl,rfl,rfl,rfl,az,aD,aH⟩:=cl;have bQ:=Z az;have bR:=Z aD;have bS:=Z aH;clear az aD aH aU aV ay;go_wp2_with fail;go_loopg [7] (z.length+1) (fun g bg wr=> ∃i:Nat,bg=.int .i64 i/\i<=z.length/\g+i=z.length+1/\z.take i=X.take i/\bw.grownBy wr none);case atStart=>exact⟨0,rfl,DD _,rfl,rfl,AB _ none⟩
   case round=>
    obtain⟨i,rfl,aE,aF,aM,N⟩:=hrel;have aN:=Z (BC aE aF);have aI:=Z N;have aO:=Z aM;have O:=Z (J.out.grown N);clear ad ae af ag ah ai aj ak al am an ao ap aq ar au aw ax aM;obtain⟨ad,ae,af,ag,ah,ai,aj,ak,al⟩:=CM O.out.ba;obtain⟨am,an,ao,ap,aq,ar,au,aw,ax⟩:=CM O.out.bb;obtain⟨aP,aQ,aR⟩:=bC.out;by_cases h:i<z.length
    ·have q:decide ((i:Int)<(z.length:Int))=true:=Au (by omega);have bh:decide (i<z.length)=true:=Au h;have ac:i<X.length:=(by rw[<-bQ.out];exact h);have bi:(0:Int)<=(i:Int)/\(i:Int)<((z.length:Nat):Int):=(by omega);have bj:(0:Int)<=(i:Int)/\(i:Int)<((X.length:Nat):Int):=(by omega);have bk:(i:Int)+1<=9223372036854775807:=(by omega);obtain⟨bT,bU,aY,bl,t0,t1,t2⟩:=Mu.get O.out.nx.DJ i h;obtain⟨bV,bW,aZ,bm,aG,s1,s2⟩:=Mu.get O.out.ny.DJ i ac;subst aY aZ;simp only[]at t0 t1 t2 aG s1 s2;obtain⟨x,hx⟩:=U (z[i]);obtain⟨y,hy⟩:=U (X[i]);rw[hx]at t0 t1 t2;rw[hy]at aG s1 s2;unfold sv at t1 t2 s1 s2;clear aE aF N aP aQ aR;by_cases aA:x=y
     ·subst aA;have bn:=Z (show z.take (i+1)=X.take (i+1) by rw[Du h,Du ac,aO.out,hx,hy]);have bo:=Z h;clear hx hy h ac;go_upto_region 8 with(fail);go_quiet (fail);go_wp2_with fail;go_roundg (gk-1);case rel=>exact⟨i+1,by rw[EP];rfl,bo.out,by have:=aN.out;omega,bn.out,AI aI.out (Bu _)⟩
      case measure=>have:=aN.out;omega
     ·have aX:=Z (show¬z=X from fun e=>by
       subst e;exact aA (hx.symm.trans hy))
      have a0:=Z (show R=false by
       rw[<-a9.out,Ex];intro e;injection e;exact aX.out (by assumption))
      clear hx hy h ac;obtain⟨bp,a1,bq⟩:=x;obtain⟨br,a2,bs⟩:=y;simp only[]at t0 t1 t2 aG s1 s2;have cm:bp≠br\/(bp=br/\a1≠a2)\/(bp=br/\a1=a2/\bq≠bs):=by
       by_cases a:bp=br
       ·by_cases b:a1=a2
        ·exact .inr (.inr ⟨a,b,fun c=>aA (by rw[a,b,c])⟩)
        ·exact .inr (.inl ⟨a,b⟩)
       ·exact .inl a
      clear aA;rcases cm with aB|⟨rfl,aB⟩|⟨rfl,rfl,aB⟩
      ·have aL:(bp==br)=false:=Bd aB;clear aB;go_upto_region 8 with(fail);refine Bh 10 (by kernel_rfl) (by kernel_rfl) ?_;simp only[List.take_succ_cons,List.take_zero,List.drop_succ_cons,List.drop_zero];repeat(go_big_quiet_step (fail))
       refine wpQuiet_nil ?_;rintro _ ⟨nq,rfl⟩;have bt:=Z (AI L.out (AI aI.out (Bu nq)));clear ad ae af ag ah ai aj ak al am an ao ap aq ar au aw ax t0 t1 t2 aG s1 s2 bl bm bi bj bk;go_wp2_with fail;go_ret;exact⟨by rw[a0.out];try rfl,bt.out⟩
      ·have aL:((ByteArray.mk a1.toArray)==⟨a2.toArray⟩)=false:=(by rw[Ii,A4];exact aB);have bF:((ByteArray.mk a1.toArray) !=⟨a2.toArray⟩)=true:=(by rw[bne,aL];rfl);have bO:(a1==a2)=false:=(by rw[A4];exact aB);have bP:¬(ByteArray.mk a1.toArray=⟨a2.toArray⟩):=fun e=>aB (OF.1 e)
       clear aB;go_upto_region 8 with(fail);refine Bh 10 (by kernel_rfl) (by kernel_rfl) ?_;simp only[List.take_succ_cons,List.take_zero,List.drop_succ_cons,List.drop_zero];repeat(go_big_quiet_step (fail))
       refine wpQuiet_nil ?_;rintro _ ⟨nq,rfl⟩;have bt:=Z (AI L.out (AI aI.out (Bu nq)));clear ad ae af ag ah ai aj ak al am an ao ap aq ar au aw ax t0 t1 t2 aG s1 s2 bl bm bi bj bk;go_wp2_with fail;go_ret;exact⟨by rw[a0.out];try rfl,bt.out⟩
      ·have aL:((ByteArray.mk bq.toArray)==⟨bs.toArray⟩)=false:=(by rw[Ii,A4];exact aB);have bF:((ByteArray.mk bq.toArray) !=⟨bs.toArray⟩)=true:=(by rw[bne,aL];rfl);have bO:(bq==bs)=false:=(by rw[A4];exact aB);have bP:¬(ByteArray.mk bq.toArray=⟨bs.toArray⟩):=fun e=>aB (OF.1 e)
       clear aB;go_upto_region 8 with(fail);refine Bh 10 (by kernel_rfl) (by kernel_rfl) ?_;simp only[List.take_succ_cons,List.take_zero,List.drop_succ_cons,List.drop_zero];repeat(go_big_quiet_step (fail))
       refine wpQuiet_nil ?_;rintro _ ⟨nq,rfl⟩;have bt:=Z (AI L.out (AI aI.out (Bu nq)));clear ad ae af ag ah ai aj ak al am an ao ap aq ar au aw ax t0 t1 t2 aG s1 s2 bl bm bi bj bk;go_wp2_with fail;go_ret;exact⟨by rw[a0.out];try rfl,bt.out⟩
    ·have q:decide ((i:Int)<(z.length:Int))=false:=As (by omega);have bh:decide (i<z.length)=false:=As h;have cn:=Z (show z=X by
      have:=aO.out;rw[show i=z.length by omega,Dw,bQ.out,Dw]at this;exact this)
     have L:=Z (AI L.out N);have J:=O;obtain⟨co,cp⟩:=JH wr;subst cp;clear aE aF N h aP aQ aR;go_wp2_with fail;go_loopg [8] (F.length+1) (fun g bg wr=> ∃i:Nat,bg=.int .i64 i/\i<=F.length/\g+i=F.length+1/\F.take i=aa.take i/\co.grownBy wr none);case atStart=>exact⟨0,rfl,DD _,rfl,rfl,AB _ none⟩
     case round=>
      obtain⟨i,rfl,aE,aF,aM,N⟩:=hrel;have aN:=Z (BC aE aF);have aI:=Z N;have aO:=Z aM;have O:=Z (J.out.grown N);clear ad ae af ag ah ai aj ak al am an ao ap aq ar au aw ax aM;obtain⟨ad,ae,af,ag,ah,ai,aj,ak,al⟩:=CM O.out.ba;obtain⟨am,an,ao,ap,aq,ar,au,aw,ax⟩:=CM O.out.bb;obtain⟨aP,aQ,aR⟩:=bC.out;by_cases h:i<F.length
      ·have q:decide ((i:Int)<(F.length:Int))=true:=Au (by omega);have bh:decide (i<F.length)=true:=Au h;have ac:i<aa.length:=(by rw[<-bR.out];exact h);have bi:(0:Int)<=(i:Int)/\(i:Int)<((F.length:Nat):Int):=(by omega);have bj:(0:Int)<=(i:Int)/\(i:Int)<((aa.length:Nat):Int):=(by omega);have bk:(i:Int)+1<=9223372036854775807:=(by omega);obtain⟨bT,bU,u1,aY,bl,t0,bu⟩:=FP.get O.out.nx.AT i h;obtain⟨bV,bW,u2,aZ,bm,aG,bv⟩:=FP.get O.out.ny.AT i ac;subst aY aZ;simp only[]at t0 aG bu bv;obtain⟨x,hx⟩:=U (F[i]);obtain⟨y,hy⟩:=U (aa[i]);rw[hx]at bu;rw[hy]at bv;obtain⟨cC,cD,rfl,_,_⟩:=CW.at_ bu;obtain⟨z3,cE,rfl,_,_⟩:=CW.at_ bv;have bA:=Z (fun m=>bB.out _ _ _ _ (wr.drewN m) (CW.pf bu (PF.AL (n0:=n0) (Bu m))) (CW.pf bv (PF.AL (n0:=n0) (Bu m))));clear bu bv;clear aE aF N aP aQ aR;by_cases aA:x=y
       ·subst aA;have bn:=Z (show F.take (i+1)=aa.take (i+1) by rw[Du h,Du ac,aO.out,hx,hy]);have bo:=Z h;clear hx hy h ac;have bG:=Z (fun m=>by have:=bA.out m;rw[Au rfl]at this;exact this);clear bA;go_upto_region 13 with(fail);go_quiet (first|(go_at_call 74;exact Calls.quiet_of (bG.out _)));go_wp2_with fail;go_roundg (gk-1);case rel=>exact⟨i+1,by rw[EP];rfl,bo.out,by have:=aN.out;omega,bn.out,AI aI.out (Bu _)⟩
        case measure=>have:=aN.out;omega
       ·have aX:=Z (show¬F=aa from fun e=>by
         subst e;exact aA (hx.symm.trans hy))
        have a0:=Z (show R=false by
         rw[<-a9.out,Ex];intro e;injection e;exact aX.out (by assumption))
        clear hx hy h ac;have bG:=Z (fun m=>by have:=bA.out m;rw[As aA]at this;exact this);clear bA;go_upto_region 13 with(fail);go_quiet (first|(go_at_call 74;exact Calls.quiet_of (bG.out _)));go_wp2_with fail;go_ret;exact⟨by rw[a0.out];try rfl,AI L.out (AI aI.out (Bu _))⟩
      ·have q:decide ((i:Int)<(F.length:Int))=false:=As (by omega);have bh:decide (i<F.length)=false:=As h;have cq:=Z (show F=aa by
        have:=aO.out;rw[show i=F.length by omega,Dw,bR.out,Dw]at this;exact this)
       have L:=Z (AI L.out N);have J:=O;obtain⟨cr,cs⟩:=JH wr;subst cs;clear aE aF N h aP aQ aR;go_wp2_with fail;go_loopg [10] (G.length+1) (fun g bg wr=> ∃i:Nat,bg=.int .i64 i/\i<=G.length/\g+i=G.length+1/\G.take i=ab.take i/\cr.grownBy wr none);case atStart=>exact⟨0,rfl,DD _,rfl,rfl,AB _ none⟩
       case round=>
        obtain⟨i,rfl,aE,aF,aM,N⟩:=hrel;have aN:=Z (BC aE aF);have aI:=Z N;have aO:=Z aM;have O:=Z (J.out.grown N);clear ad ae af ag ah ai aj ak al am an ao ap aq ar au aw ax aM;obtain⟨ad,ae,af,ag,ah,ai,aj,ak,al⟩:=CM O.out.ba;obtain⟨am,an,ao,ap,aq,ar,au,aw,ax⟩:=CM O.out.bb;obtain⟨aP,aQ,aR⟩:=bC.out;by_cases h:i<G.length
        ·have q:decide ((i:Int)<(G.length:Int))=true:=Au (by omega);have bh:decide (i<G.length)=true:=Au h;have ac:i<ab.length:=(by rw[<-bS.out];exact h);have bi:(0:Int)<=(i:Int)/\(i:Int)<((G.length:Nat):Int):=(by omega);have bj:(0:Int)<=(i:Int)/\(i:Int)<((ab.length:Nat):Int):=(by omega);have bk:(i:Int)+1<=9223372036854775807:=(by omega);obtain⟨bT,bU,aY,bl,t0⟩:=E9.get O.out.nx.kids i h;obtain⟨bV,bW,aZ,bm,aG⟩:=E9.get O.out.ny.kids i ac;subst aY aZ;simp only[]at t0 aG;obtain⟨x,hx⟩:=U (G[i]);obtain⟨y,hy⟩:=U (ab[i]);rw[hx]at t0;rw[hy]at aG;clear aE aF N aP aQ aR;by_cases aA:x=y
         ·subst aA;have bn:=Z (show G.take (i+1)=ab.take (i+1) by rw[Du h,Du ac,aO.out,hx,hy]);have bo:=Z h;clear hx hy h ac;go_upto_region 19 with(fail);go_quiet (fail);go_wp2_with fail;go_roundg (gk-1);case rel=>exact⟨i+1,by rw[EP];rfl,bo.out,by have:=aN.out;omega,bn.out,AI aI.out (Bu _)⟩
          case measure=>have:=aN.out;omega
         ·have aX:=Z (show¬G=ab from fun e=>by
           subst e;exact aA (hx.symm.trans hy))
          have a0:=Z (show R=false by
           rw[<-a9.out,Ex];intro e;injection e;exact aX.out (by assumption))
          clear hx hy h ac;have aL:(x==y)=false:=(by rw[A4];exact aA);have bF:(x !=y)=true:=(by rw[bne,aL];rfl);go_upto_region 19 with(fail);go_quiet (fail);go_wp2_with fail;go_ret;exact⟨by rw[a0.out];try rfl,AI L.out (AI aI.out (Bu _))⟩
        ·have q:decide ((i:Int)<(G.length:Int))=false:=As (by omega);have bh:decide (i<G.length)=false:=As h;have ct:=Z (show G=ab by
          have:=aO.out;rw[show i=G.length by omega,Dw,bS.out,Dw]at this;exact this)
         have L:=Z (AI L.out N);have J:=O;obtain⟨cF,cu⟩:=JH wr;subst cu;clear aE aF N h aP aQ aR;go_wp2_with fail;go_ret;exact⟨by rw[<-a9.out,Au (by rw[cn.out,cq.out,ct.out])];try rfl,L.out⟩
end
open Go.RowKit Lx Proofs.Tryz
theorem NX(n0:Nat)(a b:List V)(v u:Value)(w:World)(F:Dj n0 w v a)(G:Dj n0 w u b):Calls prog 17 #[v,u] w fun e w'=>e=.returned (.bool (decide (a=b)))/\w.grownBy w' none:=by
 have af:=Z (fun x y a b r p k ar au aw ax ay az F G=>OT n0 x y a b r p k ar au aw ax ay az F G);obtain⟨aO,aP,rfl,aQ⟩:=F.form;obtain⟨aR,aS,rfl,aT⟩:=G.form;have aA:=Z F;have aB:=Z G;have aU:(a.length:Int)<=9223372036854775807:=(by omega);have aV:(b.length:Int)<=9223372036854775807:=(by omega);clear F G;unfold AU sv at af;by_cases h:a.length=b.length
 ·have aC:((a.length:Int) !=(b.length:Int))=false:=(by rw[h];simp);have aD:(a.length !=b.length)=false:=(by rw[h];simp);have ag:=Z h;clear h;go_enter func17,ntmps17;go_wp2_with fail;go_loopg [5] (a.length+1) (fun g N wr=> ∃i:Nat,N=.int .i64 i/\i<=a.length/\g+i=a.length+1/\a.take i=b.take i/\w.grownBy wr none);case atStart=>exact⟨0,rfl,DD _,rfl,rfl,AB w none⟩
  case round=>
   obtain⟨i,rfl,O,W,ah,I⟩:=hrel;have ai:=Z (BC O W);have aj:=Z I;have ak:=Z ah;clear ah;by_cases J:i<a.length
   ·have q:decide ((i:Int)<(a.length:Int))=true:=Au (by omega);have aE:decide (i<a.length)=true:=Au J;have al:i<b.length:=(by rw[<-ag.out];exact J);have aW:(0:Int)<=(i:Int)/\(i:Int)<((a.length:Nat):Int):=(by omega);have aX:(0:Int)<=(i:Int)/\(i:Int)<((b.length:Nat):Int):=(by omega);have aY:(i:Int)+1<=9223372036854775807:=(by omega);obtain⟨aZ,a0,a1,a2,a3,a4,a5,a6,X,-,-,a7,L,u0,u1,u2,u3,u4,u5,u6,u7⟩:=(Dj.pf aA.out (PF.AL (n0:=n0) I)).at_ i J;obtain⟨a8,a9,a',ba,bb,bc,bd,be,aa,-,-,bf,M,am,ab,an,aF,aG,N,aH,aI⟩:=(Dj.pf aB.out (PF.AL (n0:=n0) I)).at_ i al;injection X with X _ aJ;injection aa with aa _ aK;subst X aa aJ aK;obtain⟨x,hx⟩:=U (a[i]);obtain⟨y,hy⟩:=U (b[i]);rw[hx]at L u0 u1 u2;rw[hy]at M am ab an;have ao:=Z (fun m=>af.out _ _ _ _ _ _ _ _ _ _ _ _ (wr.drewN m) (Fk.pf L (PF.AL (n0:=n0) (Bu m))) (Fk.pf M (PF.AL (n0:=n0) (Bu m))));obtain⟨bg,bh,bi,bj,bk,bl,bm,bn,bo,bp,rfl,rfl,rfl,rfl,rfl⟩:=L.C5;obtain⟨bq,br,bs,bt,bu,bv,bw,bx,bz,bA,rfl,rfl,rfl,rfl,rfl⟩:=M.C5;unfold sv at u1 ab;clear O W I L M;obtain⟨aL,ac⟩:=U (decide (x=y));rw[ac]at ao;have z:=Z (BC hx (BC hy ac));have ad:=Z (BC J al);clear hx hy ac;go_upto_region 6 with(fail);refine Bh 8 (by kernel_rfl) (by kernel_rfl) ?_;simp only[List.take_succ_cons,List.take_zero,List.drop_succ_cons,List.drop_zero];repeat(go_big_quiet_step (fail))
    refine wpQuiet_nil ?_;rintro _ ⟨nq,rfl⟩;clear u0 u1 u2 u3 u4 u5 u6 u7 am ab an aF aG N aH aI;go_wp2_with fail;refine(ao.out nq).mono ?_;rintro e bB ⟨rfl,ap⟩;have aq:=Z (AI aj.out (AI (Bu nq) ap));clear ap;cases aL with
    |true=>
     have aM:=Z (show a.take (i+1)=b.take (i+1) by
      have K:=z.out.2.2;rw[Di]at K;rw[Du ad.out.1,Du ad.out.2,ak.out,z.out.1,z.out.2.1,K])
     go_wp2_with fail;go_roundg (gk-1);case rel=>exact⟨i+1,by rw[EP];rfl,ad.out.1,by have:=ai.out;omega,aM.out,aq.out⟩
     case measure=>have:=ai.out;omega
    |false=>
     have ae:=Z (show decide (a=b)=false by
      rw[Ex];intro e;subst e;have K:=z.out.2.2;rw[Ex]at K;exact K (z.out.1.symm.trans z.out.2.1))
     go_wp2_with fail;go_ret;exact⟨by rw[ae.out];try rfl,aq.out⟩
   ·have q:decide ((i:Int)<(a.length:Int))=false:=As (by omega);have aE:decide (i<a.length)=false:=As J;have aN:=Z (show decide (a=b)=true by
     rw[Di];have:=ak.out;rw[show i=a.length by omega,Dw,ag.out,Dw]at this;exact this)
    clear O W I;go_wp2_with fail;go_ret;exact⟨by rw[aN.out];try rfl,aj.out⟩
 ·have aC:((a.length:Int) !=(b.length:Int))=true:=JY (by omega);have aD:(a.length !=b.length)=true:=JY h;have ae:=Z (show decide (a=b)=false by
   rw[Ex];intro e;rw[e]at h;exact h rfl)
  go_enter func17,ntmps17;go_wp2_with fail;go_ret;exact⟨by rw[ae.out];try rfl,AB _ _⟩
end Go.Proofs.YtdhfhphbkfgamaaGreat
