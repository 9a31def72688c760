/- A part. -/
import Derived.Test.YtdhfhphbkfgamaaGreatEu
import Derived.Test.YtdhfhphbkfgamaaGreatUo
set_option maxRecDepth 100000
set_option linter.all false
set_option maxHeartbeats 0
namespace Go.Proofs.YtdhfhphbkfgamaaGreat
open Go.RowKit Lx Proofs.Tryz
theorem RE.XH{n:V}(h:RE n):Ut n:=⟨h.XG,E0 h.name (by decide),fun s hs=>E0 (h.AZ s hs) (by decide)⟩
theorem Pt{h z:World}{e e':TypeId}{v u:Value}{n m:Nat}{xs G:List Value}(F:Own h e' 1 v n xs 0)(I:Own h e 1 u m G 0)(o:Obj)(J:Az (fun k=>u.ownBlock=some k) (h.alloc o) z)(K:e≠e'):Own z e' 1 v n xs 0:=
 (F.alloc o).Bo J fun _ hk hs=>K ((Own.AO (I.alloc o) hs).uniq (Own.AO (F.alloc o) hk))
theorem JC{l:List V}(h:EI l=true):IS l/\1<=l.length/\l.length<=300:=by
 unfold EI at h;rw[CN,CN,Di,Di]at h;obtain⟨⟨I,J⟩,F⟩:=h;cases G:Fs l []with
 |none=>rw[G]at F;cases F
 |some K=>
  have hk:=LU l [] [] K rfl (fun i z=>by simp at z) G;refine⟨fun i z k L=>?_,I,J⟩;have:=hk i z k L;simpa using this
def GW(n:V):Bool:=match n.kids[2]? with
 |some k=>decide (0<=k)
 |none=>false
theorem Qh{n:V}(h:¬2<n.kids.length):GW n=false:=by unfold GW;rw[List.getElem?_eq_none (by omega)]
theorem Ls{n:V}(h:2<n.kids.length):GW n=decide ((0:Int)<=n.kids[2]):=by unfold GW;rw[CZ h]
theorem Pd{l:List V}{n:V}(h:GW n=false):Dm l n=false:=by
 unfold GW at h;unfold Dm;cases hk:n.kids[2]? with
 |none=>rfl
 |some k=>rw[hk]at h;simp only[]at h⊢;rw[h];rfl
theorem LZ{n:V}(h:GW n=true):∃h:2<n.kids.length,(0:Int)<=n.kids[2]:=by
 unfold GW at h;cases hk:n.kids[2]? with
 |none=>rw[hk]at h;cases h
 |some k=>
  rw[hk]at h;obtain⟨z,rfl⟩:=List.getElem?_eq_some_iff.1 hk;exact⟨z,of_decide_eq_true h⟩
theorem Rn{l:List V}{n:V}(h:Dm l n=true):2<n.kids.length:=by
 cases z:GW n with
 |false=>rw[Pd z]at h;cases h
 |true=>exact(LZ z).1
theorem Uh{l:List V}{n:V}(h:2<n.kids.length)(m:Nat)(z:n.kids[2]=(m:Int))(F:m<l.length):Dm l n=((l[m]).kind==10&&(l[m]).AK.isEmpty):=by
 unfold Dm;rw[CZ h,z];simp only[JT];rw[show l.getD m QT=l[m] by simp[F],Au (by omega:(0:Int)<=(m:Int)),Bool.true_and]
def Us(D:List UInt8)(w:World)(e:Ending)(w':World):Prop:=e=.returned (sv D)/\w.grownBy w' none
theorem Me(n0:Nat)(l:List V)(v:Value)(w:World)(L:Dj n0 w v l)(aC:∀n∈l,RE n):Calls prog 7 #[v] w (Us (Ow l) w):=by
 obtain⟨dP,dQ,rfl,cO⟩:=L.form;have bB:=Z (OP n0 l _ w L);have bC:=Z L;have cP:=Z aC;obtain⟨o,h⟩:=U (EI l);rw[h]at bB;have bD:=Z h;obtain⟨D,bE⟩:=U (Ow l);rw[bE];have ck:=Z bE;obtain⟨W,bF⟩:=U l.length;rw[bF]at cO bB bC⊢;have aD:=Z bF;clear L aC h bE bF;go_enter func7,ntmps7;go_wp2_with fail;refine bB.out.mono ?_;rintro e cl ⟨rfl,bG⟩;have cm:=Z bG;have bH:=Z (bC.out.pf (PF.AL (n0:=n0) bG));clear bG;cases o with
 |false=>
  have ai:=Z (show D=[] by rw[<-ck.out];unfold Ow;rw[AP (by rw[bD.out];decide)]);go_wp2_with fail;rw[ai.out];go_ret;exact⟨rfl,cm.out⟩
 |true=>
  have bI:=Z (JC bD.out);have dR:1<=W:=(by have:=bI.out.2.1;have:=aD.out;omega);have dS:(W:Int)<=300:=(by have:=bI.out.2.2;have:=aD.out;omega);have J:=Z (AE.nil cl);go_wp2_with fail;go_loopg [4,5,6] (W+1) (fun g cQ cR cS wr=> ∃i:Nat,cS=.int .i64 i/\i<=W/\g+i=W+1/\AE cl wr cQ cR (Ch l i).1 (Ch l i).2);case atStart=>exact⟨0,rfl,DD _,rfl,J.out⟩
  case round=>
   clear J;obtain⟨i,rfl,dT,cn,bd⟩:=hrel;have aj:=Z cn;have J:=Z bd;obtain⟨A,aQ⟩:=U ((Ch l i).1);obtain⟨E,be⟩:=U ((Ch l i).2);have aR:A.length=i:=(by rw[<-aQ];exact N9 i);have co:E.length=i:=(by rw[<-be];exact NR i);have cp:=Z (show∀s∈A,s.length<=8192 by rw[<-aQ];exact Rg i);rw[aQ,be]at J bd;have bJ:=Z (BC aQ be);have aS:=Z (BC aR co);obtain⟨dU,dV,rfl,_,_⟩:=bd.b.form;obtain⟨bf,cq⟩:=JH gk;have ak:=Z cq;clear cn bd aQ be aR co cq;obtain⟨bK,cT⟩:=JH wr;subst cT;by_cases bg:i<W
   ·have cU:decide ((i:Int)<(W:Int))=true:=Au (by omega);have cV:decide (i<W)=true:=Au bg;have aT:i<l.length:=(by have:=aD.out;omega);obtain⟨g,dW,dX,dY,dZ,d0,d1,d2,cW,-,-,G,aU,aV,aW,bh,bL,bM,bN,bO,ap⟩:=bH.out.at_ i aT;injection cW with N aX aY;subst N;subst aY;clear aX;obtain⟨n,aE⟩:=U (l[i]);rw[aE]at aU aV aW bh;have d3:=Z (show∀L:i<l.length,l[i]=n from fun _=>aE);have cr:=Z (cP.out n (by rw[<-aE];exact Cp aT));obtain⟨d4,d5,d6,d7,d8,d9,d',ea,eb,ec,rfl,rfl,rfl,rfl,rfl⟩:=aU.C5;have ed:(0:Int)<=(i:Int)/\(i:Int)<(W:Int):=(by omega);have ee:(i:Int)+1<=9223372036854775807:=(by omega);have bi:=Z aU.kids;have cX:=Z aU;unfold sv at aW;have aV:=Z aV;have aW:=Z aW;have bh:=Z bh;have bL:=Z bL;have bM:=Z bM;have bN:=Z bN;have bO:=Z bO;have ap:=Z ap;have cY:n.kids.length<=100000:=cr.out.kids;have cs:=Z (show∀k∈n.kids,(k= -1/\n.kind=14)\/(0<=k/\k<(i:Int)) by rw[<-aE];exact bI.out.1 i aT);obtain⟨al,bP⟩:=U n.kids.length;rw[bP]at cY bi ap;have ag:=Z bP;have cZ:=Z (TF i aT n aE);have K:=Z (K3.nil bK);clear aE aU bP aT bg;go_wp2_with fail;go_loopg [7,8,9,10] (al+1) (fun c0 c1 c2 c5 c6 aZ=> ∃r:Nat,c6=.int .i64 r/\r<=al/\c0+r=al+1/\K3 bK aZ c1 c2 c5 ((Ez A n).take r) ((EE l n).take r) ((C7 E n).take r));case atStart=>exact⟨0,rfl,DD _,rfl,K.out⟩
    case round=>
     clear K;obtain⟨r,rfl,c7,ct,bQ⟩:=hrel;have bj:=Z ct;have K:=Z bQ;have M:=Z (AI J.out.g bQ.g);obtain⟨X,aF⟩:=U ((Ez A n).take r);obtain⟨I,aG⟩:=U ((EE l n).take r);obtain⟨aH,aI⟩:=U ((C7 E n).take r);have bk:X.length=r:=(by rw[<-aF,Fw,JL,ag.out];omega);have bl:I.length=r:=(by rw[<-aG,Fw,Jn,ag.out];omega);have cu:aH.length=r:=(by rw[<-aI,Fw,JI,ag.out];omega);rw[aF,aG,aI]at K;have bR:=Z (BC aF (BC aG aI));have ef:=Z (BC bk (BC bl cu));have u7:=AH M.out G ap.out;have a0:=DZ G M.out.size;clear bQ ct;by_cases bm:r<al
     ·have c8:decide ((r:Int)<(al:Int))=true:=Au (by omega);have c9:decide (r<al)=true:=Au bm;have aJ:r<n.kids.length:=(by have:=ag.out;omega);obtain⟨aK,aL⟩:=U (n.kids[r]);obtain⟨cv,cw,a1,aq,O⟩:=E9.get bi.out r aJ;subst a1;rw[aL]at O;have bS:=Z O;have O:=AH M.out aq bS.out;have eg:(0:Int)<=(r:Int)/\(r:Int)<(al:Int):=(by omega);have eh:(r:Int)+1<=9223372036854775807:=(by omega);have c':=Z (cs.out aK (by rw[<-aL];exact Cp aJ));have ar:=Z (Qo (A:=A) n r aJ);have au:=Z (ON (l:=l) n r aJ);have aw:=Z (NJ (E:=E) n r aJ);rw[aL,bR.out.1]at ar;rw[aL,bR.out.2.1]at au;rw[aL,bR.out.2.2]at aw;clear aL aJ bm aF aG aI;by_cases am:aK<0
      ·have a2:decide (aK<0)=true:=Au am;have ar:=Z (show(Ez A n).take (r+1)=X++[[]]from by have:=ar.out;rw[Ai am]at this;exact this);have au:=Z (show(EE l n).take (r+1)=I++[false]from by have:=au.out;rw[Ai am]at this;exact this);have aw:=Z (show(C7 E n).take (r+1)=aH++[false]from by have:=aw.out;rw[Ai am]at this;exact this);go_wp2_with (at_builtin;first
        |(refine AV 9 (.string ⟨#[]⟩) 1 16 underlying27 EA rfl _ _ _ 0 _ 1 [sv []] rfl rfl (Own.alloc K.out.t _) (by omega) (Jz _ _ [] rfl) (by unfold maxLen;omega) (by omega) ?_;intro aa ab h z F _;(have ah:=Z (K.out.TH _ [] h z F);clear h z F))
        |(refine AV 4 (.bool false) 1 1 underlying48 FX rfl _ _ _ 0 _ 1 [.bool false] rfl rfl (Own.alloc ah.out.b _) (by omega) (KQ _ _ false rfl) (by unfold maxLen;omega) (by omega) ?_;intro aa ab h z F _;(have ac:=Z (ah.out.Mb _ false h z F);clear h z F))
        |(refine AV 4 (.bool false) 1 1 underlying48 FX rfl _ _ _ 0 _ 1 [.bool false] rfl rfl (Own.alloc ac.out.a _) (by omega) (KQ _ _ false rfl) (by unfold maxLen;omega) (by omega) ?_;intro aa ab h z F _;(have bT:=Z (ac.out.Xe _ false h z F);clear h z F)))
       go_roundg (gk-1);case rel=>exact⟨r+1,by rw[EP];rfl,by omega,by have:=bj.out;omega,by rw[ar.out,au.out,aw.out];exact bT.out⟩
       case measure=>have:=bj.out;omega
      ·have a2:decide (aK<0)=false:=As am;obtain⟨m,rfl⟩:∃m:Nat,aK=(m:Int):=⟨aK.toNat,by omega⟩;have da:(0:Int)<=(m:Int)/\(m:Int)<(i:Int):=by
        rcases c'.out with⟨L,_⟩|L
        ·omega
        ·exact L
       have ax:m<l.length:=(by have:=aD.out;omega);have db:(m:Int)<(W:Int):=(by omega);obtain⟨s,hs⟩:=U (A.getD m []);obtain⟨aM,bU⟩:=U (E.getD m false);obtain⟨bn,bV⟩:=U ((l[m]).kind);have bW:m<A.length:=(by have:=aS.out.1;omega);have bX:m<E.length:=(by have:=aS.out.2;omega);have ei:(m:Int)<(A.length:Int):=(by omega);have ej:(m:Int)<(E.length:Int):=(by omega);have cx:A[m]=s:=(by rw[<-hs];simp[bW]);have cy:E[m]=aM:=(by rw[<-bU];simp[bX]);have ar:=Z (show(Ez A n).take (r+1)=X++[s] by have:=ar.out;rw[AP am,Int.toNat_natCast,hs]at this;exact this);have au:=Z (show(EE l n).take (r+1)=I++[bn==7] by have:=au.out;rw[AP am,JT,show l.getD m QT=l[m] by simp[ax],bV]at this;exact this);have aw:=Z (show(C7 E n).take (r+1)=aH++[aM] by have:=aw.out;rw[AP am,Int.toNat_natCast,bU]at this;exact this);obtain⟨dc,dd,de,bY,bZ,aN⟩:=KX J.out.t m (by omega) (sv s) (by rw[II,CZ bW,cx];rfl);obtain⟨ek,el,em,df,cz,b0⟩:=KX J.out.b m (by omega) (.bool aM) (by rw[II,CZ bX,cy];rfl);obtain⟨dg,dh,di,dj,dk,dl,dm,dn,b1,-,-,-,-,bo,-,-,-,-,-,-,-⟩:=bH.out.at_ m ax;injection b1 with N aX aY;injection N with N;injection N with N b2;subst N b2;clear aX aY;rw[bV]at bo;subst bY;injection df with dp dq dr;subst dp dr;unfold sv at aN;have ds:=Z aN;have dt:=Z b0;have du:=Z bo;have aN:=AH K.out.g bZ ds.out;have en:=DZ bZ K.out.g.size;clear hs bU bV bW bX cx cy dq b0 bo ax;go_upto_region 19 with(fail);go_upto_region 20 with(at_builtin;(refine AV 9 (.string ⟨#[]⟩) 1 16 underlying27 EA rfl _ _ _ 0 _ 1 [sv s] rfl rfl (Own.alloc K.out.t _) (by omega) (Jz _ _ s rfl) (by unfold maxLen;omega) (by omega) ?_;intro aa ab h z F _;(have ah:=Z (K.out.TH _ s h z F);have u7:=AH (AI J.out.g ah.out.g) G ap.out;have a0:=DZ G (AI J.out.g ah.out.g).size;have O:=AH (AI J.out.g ah.out.g) aq bS.out;have bo:=AH (AI J.out.g ah.out.g) G du.out;clear h z F)));go_upto_region 21 with(at_builtin;(refine AV 4 (.bool false) 1 1 underlying48 FX rfl _ _ _ 0 _ 1 [.bool (bn==7)] rfl rfl (Own.alloc ah.out.b _) (by omega) (KQ _ _ (bn==7) rfl) (by unfold maxLen;omega) (by omega) ?_;intro aa ab h z F _;(have ac:=Z (ah.out.Mb _ (bn==7) h z F);have u7:=AH (AI J.out.g ac.out.g) G ap.out;have a0:=DZ G (AI J.out.g ac.out.g).size;have O:=AH (AI J.out.g ac.out.g) aq bS.out;have b0:=AH ac.out.g cz dt.out;have eo:=DZ cz ac.out.g.size;clear h z F)));go_wp2_with (at_builtin;(refine AV 4 (.bool false) 1 1 underlying48 FX rfl _ _ _ 0 _ 1 [.bool aM] rfl rfl (Own.alloc ac.out.a _) (by omega) (KQ _ _ aM rfl) (by unfold maxLen;omega) (by omega) ?_;intro aa ab h z F _;(have bT:=Z (ac.out.Xe _ aM h z F);clear h z F)));go_roundg (gk-1);case rel=>exact⟨r+1,by rw[EP];rfl,by omega,by have:=bj.out;omega,by rw[ar.out,au.out,aw.out];exact bT.out⟩
       case measure=>have:=bj.out;omega
     ·obtain rfl:r=al:=by omega
      have c8:decide ((r:Int)<(r:Int))=false:=As (by omega);have c9:decide (r<r)=false:=As bm;have a3:=Z (show X=Ez A n/\I=EE l n/\aH=C7 E n from⟨by rw[<-aF];exact List.take_of_length_le (by rw[JL,ag.out];omega),by rw[<-aG];exact List.take_of_length_le (by rw[Jn,ag.out];omega),by rw[<-aI];exact List.take_of_length_le (by rw[JI,ag.out];omega)⟩);obtain⟨t1,t2,rfl,_,_⟩:=K.out.t.form;obtain⟨ep,eq,rfl,_,_⟩:=K.out.b.form;obtain⟨es,et,rfl,_,_⟩:=K.out.a.form;clear aF aG aI bm c7;have b3:=ag.out;have bp:=Z (show X.length=n.kids.length/\I.length=n.kids.length from⟨by rw[b3];exact bk,by rw[b3];exact bl⟩);have eu:X.length<=r/\r<=X.length:=(by omega);have ev:I.length<=r/\r<=I.length:=(by omega);have cA:=Z (BC bk bl);clear b3 bk bl cu;obtain⟨C,cB⟩:=U (GW n);have a4:=Z cB;obtain⟨an,b4⟩:=U (Dm l n);have b5:=Z b4;obtain⟨bq,b6⟩:=U (IT n X I aH an);have dv:=Z b6;have ao:=Z (show(Ch l (i+1)).1=A++[bq]/\(Ch l (i+1)).2=E++[Lf l n] by
       rw[cZ.out,bJ.out.1,bJ.out.2,b4,<-a3.out.1,<-a3.out.2.1,<-a3.out.2.2,b6];exact⟨rfl,rfl⟩)
      clear cB b4 b6;obtain⟨cC,dw⟩:=JH wr;subst dw;go_upto_region 23 with(fail);go_cut [112] (fun dx aZ=>dx=.bool C/\cC=aZ);case first=>
       by_cases ew:2<X.length
       ·have dy:decide ((2:Int)<(X.length:Int))=true:=Au (by omega);have ay:2<n.kids.length:=(by have:=bp.out.1;omega);obtain⟨aO,ad⟩:=U (n.kids[2]);obtain⟨cv,cw,a1,aq,O⟩:=E9.get bi.out 2 ay;subst a1;rw[ad]at O;have O:=AH M.out aq O;have dz:(0:Int)<=2/\(2:Int)<(r:Int):=(by omega);by_cases a5:0<=aO
        ·have a2:decide ((0:Int)<=aO)=true:=Au a5;have a6:=Z (show C=true by rw[<-a4.out,Ls ay,ad,a2]);clear ad;go_wp2_with fail;go_meet;exact⟨by rw[a6.out],rfl⟩
        ·have a2:decide ((0:Int)<=aO)=false:=As a5;have a6:=Z (show C=false by rw[<-a4.out,Ls ay,ad,a2]);clear ad;go_wp2_with fail;go_meet;exact⟨by rw[a6.out],rfl⟩
       ·have dy:decide ((2:Int)<(X.length:Int))=false:=As (by omega);have a6:=Z (show C=false by rw[<-a4.out];exact Qh (by have:=bp.out.1;omega));go_wp2_with fail;go_meet;exact⟨by rw[a6.out],rfl⟩
      case rest=>
      obtain⟨rfl,dA⟩:=hcut;subst dA;go_upto_if 112 with(fail);go_cut [11] (fun dB aZ=>dB=.bool an/\cC.grownBy aZ none);case first=>
       cases C with
       |false=>
        have az:=Z (show an=false by rw[<-b5.out];exact Pd a4.out);go_wp2_with fail;go_meet;exact⟨by rw[az.out],AB _ none⟩
       |true=>
        obtain⟨ay,a5⟩:=LZ a4.out;obtain⟨aO,ad⟩:=U (n.kids[2]);obtain⟨cv,cw,a1,aq,O⟩:=E9.get bi.out 2 ay;subst a1;rw[ad]at O a5;have O:=AH M.out aq O;have dz:(0:Int)<=2/\(2:Int)<(r:Int):=(by have:=bp.out.1;omega);obtain⟨m,rfl⟩:∃m:Nat,aO=(m:Int):=⟨aO.toNat,by omega⟩;have da:(0:Int)<=(m:Int)/\(m:Int)<(i:Int):=by
         rcases cs.out (m:Int) (by rw[<-ad];exact Cp ay)with⟨L,_⟩|L
         ·omega
         ·exact L
        have ax:m<l.length:=(by have:=aD.out;omega);have db:(m:Int)<(W:Int):=(by omega);obtain⟨dg,dh,di,dj,dk,dl,dm,dn,b1,-,-,-,br,b7,bs,b8,c3,c4,cD,cE,cF⟩:=bH.out.at_ m ax;injection b1 with N aX aY;injection N with N;injection N with N b2;subst N b2;clear aX aY;obtain⟨d,b9⟩:=U (l[m]);have b':=Z (show an=(d.kind==10&&d.AK.isEmpty) by rw[<-b5.out,Uh ay m ad ax,b9]);rw[b9]at br b7 bs b8;obtain⟨ex,ey,ez,eA,eB,eC,eD,eE,eF,eG,rfl,rfl,rfl,rfl,rfl⟩:=br.C5;have eH:(d.AK.length:Int)<=9223372036854775807:=(by obtain⟨_,_,_,_,eI,_⟩:=br.DJ.now;omega);unfold sv at bs;have b7:=AH M.out G b7;have bs:=AH M.out G bs;have b8:=AH M.out G b8;have c3:=AH M.out G c3;have c4:=AH M.out G c4;have cD:=AH M.out G cD;have cE:=AH M.out G cE;have cF:=AH M.out G cF;clear b9 br ad ax;by_cases a7:d.kind=10
        ·have bt:(d.kind==10)=true:=Xa a7;by_cases bu:d.AK.length=0
         ·have dC:((d.AK.length:Int)==0)=true:=Xa (by omega);have az:=Z (show an=true by rw[b'.out,bt,List.isEmpty_iff.2 (List.length_eq_zero_iff.1 bu)];rfl);clear a7 bu;go_wp2_with fail;go_meet;exact⟨by rw[az.out],AF (AB _ none) _⟩
         ·have dC:((d.AK.length:Int)==0)=false:=Bd (by omega);have az:=Z (show an=false by
           rw[b'.out,bt,Bool.true_and];cases hx:d.AK.isEmpty with
           |false=>rfl
           |true=>exact Aj (by rw[List.isEmpty_iff.1 hx];rfl) bu)
          clear a7 bu;go_wp2_with fail;go_meet;exact⟨by rw[az.out],AF (AB _ none) _⟩
        ·have bt:(d.kind==10)=false:=Bd a7;have az:=Z (show an=false by rw[b'.out,bt];rfl);clear a7;go_wp2_with fail;go_meet;exact⟨by rw[az.out],AF (AB _ none) _⟩
      case rest=>
      obtain⟨rfl,bv⟩:=hcut;have dD:=Z bv;have ae:=Z (AI M.out bv);have ca:=Z (K.out.EO bv);have cb:=Z (N1 n0 n _ _ _ _ _ X I aH an _ _ _ wc (Fk.pf cX.out (PF.AL (n0:=n0) ae.out)) (JU ca.out.t) (JU ca.out.b) (JU ca.out.a) (by rw[cA.out.1,cA.out.2]) (fun aP=>by rw[bp.out.1];exact Rn (b5.out.trans aP)) cr.out.XH (by rw[a3.out.1];exact TJ cp.out n));rw[dv.out,ag.out]at cb;unfold AU sv at cb;have u0:=AH ae.out G aV.out;have u1:=AH ae.out G aW.out;have u2:=AH ae.out G bh.out;have u3:=AH ae.out G bL.out;have u4:=AH ae.out G bM.out;have u5:=AH ae.out G bN.out;have u6:=AH ae.out G bO.out;have u7:=AH ae.out G ap.out;have a0:=DZ G ae.out.size;clear bv;go_wp2_with fail;refine cb.out.mono ?_;rintro e cG ⟨rfl,a8⟩;have a9:=Z (AI dD.out a8);have cc:=Z (J.out.EO (AI K.out.g a9.out));have dE:=Z (Gj a9.out K.out.b);have eJ:A.length<=300:=(by have:=aS.out.1;omega);have eK:E.length<=300:=(by have:=aS.out.2;omega);clear a8 u0 u1 u2 u3 u4 u5 u6 u7 a0;go_upto_region 27 with(at_builtin;(refine AV 9 (.string ⟨#[]⟩) 1 16 underlying27 EA rfl _ _ _ 0 _ 1 [sv bq] rfl rfl (Own.alloc cc.out.t _) (by omega) (Jz _ _ bq rfl) (by unfold maxLen;omega) (by omega) ?_;intro aa ab h z F _;(have af:=Z (cc.out.TH _ bq h z F);have dF:=Z (Pt dE.out cc.out.t _ z (by decide));have u0:=AH af.out.g G aV.out;have a0:=DZ G af.out.g.size;clear h z F)));have bw:=Z (show Lf l n=(n.kind==7||(n.kind==6&&I.getLastD false)) by rw[a3.out.2.1];rfl);by_cases a':n.kind=7
      ·have ba:(n.kind==7)=true:=Xa a';have aA:=Z (show Lf l n=true by rw[bw.out,ba];rfl);clear a';go_wp2_with (at_builtin;(refine AV 4 (.bool false) 1 1 underlying48 FX rfl _ _ _ 0 _ 1 [.bool true] rfl rfl (Own.alloc af.out.b _) (by omega) (KQ _ _ true rfl) (by unfold maxLen;omega) (by omega) ?_;intro aa ab h z F _;(have aB:=Z (af.out.Mb _ true h z F);clear h z F)));go_roundg (bf-1);case rel=>exact⟨i+1,by rw[EP];rfl,by omega,by have:=aj.out;have:=ak.out;omega,by rw[ao.out.1,ao.out.2,aA.out];exact aB.out⟩
       case measure=>have:=aj.out;have:=ak.out;omega
      ·have ba:(n.kind==7)=false:=Bd a';by_cases bx:n.kind=6
       ·have bz:(n.kind==6)=true:=Xa bx;clear bx a';by_cases a5:0<I.length
        ·have dG:decide ((0:Int)<(I.length:Int))=true:=Au (by omega);obtain⟨m,bb⟩:∃m,I.length=m+1:=⟨I.length-1,by omega⟩;have dH:(I.length:Int)-1=(m:Int):=(by omega);have dI:(0:Int)<=(m:Int)/\(m:Int)<(I.length:Int):=(by omega);obtain⟨lb,cd⟩:=U (I.getLastD false);have cH:I[m]? =some lb:=by
          rw[<-cd,List.getLastD_eq_getLast?,List.getLast?_eq_getElem?,bb,Nat.add_sub_cancel,CZ (by omega)];rfl
         obtain⟨eL,eM,eN,dJ,eO,eP⟩:=KX dF.out m (by omega) (.bool lb) (by rw[II,cH];rfl);injection dJ with dK dL dM;subst dK dM;have aA:=Z (show Lf l n=lb by rw[bw.out,ba,bz,cd,Bool.false_or,Bool.true_and]);clear cd cH dL bb;go_wp2_with (at_builtin;(refine AV 4 (.bool false) 1 1 underlying48 FX rfl _ _ _ 0 _ 1 [.bool lb] rfl rfl (Own.alloc af.out.b _) (by omega) (KQ _ _ lb rfl) (by unfold maxLen;omega) (by omega) ?_;intro aa ab h z F _;(have aB:=Z (af.out.Mb _ lb h z F);clear h z F)));go_roundg (bf-1);case rel=>exact⟨i+1,by rw[EP];rfl,by omega,by have:=aj.out;have:=ak.out;omega,by rw[ao.out.1,ao.out.2,aA.out];exact aB.out⟩
         case measure=>have:=aj.out;have:=ak.out;omega
        ·have dG:decide ((0:Int)<(I.length:Int))=false:=As (by omega);have aA:=Z (show Lf l n=false by
          have dN:I=[]:=List.length_eq_zero_iff.1 (by omega);rw[bw.out,ba,bz,dN];rfl)
         go_wp2_with (at_builtin;(refine AV 4 (.bool false) 1 1 underlying48 FX rfl _ _ _ 0 _ 1 [.bool false] rfl rfl (Own.alloc af.out.b _) (by omega) (KQ _ _ false rfl) (by unfold maxLen;omega) (by omega) ?_;intro aa ab h z F _;(have aB:=Z (af.out.Mb _ false h z F);clear h z F)));go_roundg (bf-1);case rel=>exact⟨i+1,by rw[EP];rfl,by omega,by have:=aj.out;have:=ak.out;omega,by rw[ao.out.1,ao.out.2,aA.out];exact aB.out⟩
         case measure=>have:=aj.out;have:=ak.out;omega
       ·have bz:(n.kind==6)=false:=Bd bx;have aA:=Z (show Lf l n=false by rw[bw.out,ba,bz];rfl);clear bx a';go_wp2_with (at_builtin;(refine AV 4 (.bool false) 1 1 underlying48 FX rfl _ _ _ 0 _ 1 [.bool false] rfl rfl (Own.alloc af.out.b _) (by omega) (KQ _ _ false rfl) (by unfold maxLen;omega) (by omega) ?_;intro aa ab h z F _;(have aB:=Z (af.out.Mb _ false h z F);clear h z F)));go_roundg (bf-1);case rel=>exact⟨i+1,by rw[EP];rfl,by omega,by have:=aj.out;have:=ak.out;omega,by rw[ao.out.1,ao.out.2,aA.out];exact aB.out⟩
        case measure=>have:=aj.out;have:=ak.out;omega
   ·obtain rfl:i=W:=by omega
    have cU:decide ((i:Int)<(i:Int))=false:=As (by omega);have cV:decide (i<i)=false:=As bg;have aR:A.length=i:=aS.out.1;obtain⟨m,bb⟩:∃m,i=m+1:=⟨i-1,by omega⟩;have dH:(A.length:Int)-1=(m:Int):=(by omega);have dI:(0:Int)<=(m:Int)/\(m:Int)<(A.length:Int):=(by omega);obtain⟨s,hs⟩:=U (A.getLastD []);have aC:A[m]? =some s:=by
     rw[<-hs,List.getLastD_eq_getLast?,List.getLast?_eq_getElem?,aR,bb,Nat.add_sub_cancel,CZ (by omega)];rfl
    have eQ:s.length<=8192:=cp.out s (List.mem_of_getElem? aC);obtain⟨dc,dd,de,bY,bZ,aN⟩:=KX J.out.t m (by omega) (sv s) (by rw[II,aC];rfl);subst bY;unfold sv at aN;have cI:=Z (show D=if 4096<s.length then []else if(CD s).e=0/\(CD s).ns=l then s else [] by rw[<-ck.out];unfold Ow;rw[Ai bD.out,aD.out,bJ.out.1,hs]);have eR:=sz s;have cJ:=Z (AI cm.out J.out.g);have eS:(A.length:Int)<=300:=(by omega);clear hs aC bb aR bg;by_cases bA:4096<s.length
    ·have dO:decide ((4096:Int)<(s.length:Int))=true:=Au (by omega);have ai:=Z (show D=[] by rw[cI.out,Ai bA]);clear bA;go_wp2_with fail;rw[ai.out];go_ret;exact⟨rfl,cJ.out⟩
    ·have dO:decide ((4096:Int)<(s.length:Int))=false:=As (by omega);have ce:=Z (OM s bK (by omega));obtain⟨P,cf⟩:=U (CD s);have ai:=Z (show D=if P.e=0/\P.ns=l then s else [] by rw[cI.out,AP bA,cf]);rw[cf]at ce;unfold FH sv at ce;clear bA cf;go_wp2_with fail;refine ce.out.mono ?_;rintro e cG ⟨pv,rfl,cg,_,a8⟩;have a9:=Z (AI cJ.out a8);obtain⟨pa,eT,rfl,_⟩:=(cg.OL (n0:=n0)).form;have cK:=Z (NX n0 l P.ns _ _ cG (bC.out.pf (PF.AL (n0:=n0) a9.out)) cg.OL);obtain⟨b,ch⟩:=U (decide (l=P.ns));rw[ch]at cK;have cL:=Z ch;obtain⟨cM,ci⟩:=U P.e;rw[ci]at ai;simp only[ci];clear cg a8 ch ci aN;go_wp2_with fail;refine cK.out.mono ?_;rintro e eU ⟨rfl,cN⟩;have cj:=Z (AI a9.out cN);clear cN;by_cases aP:cM=0
     ·subst aP;cases b with
      |true=>
       have bc:=Z (show D=s by rw[ai.out,Ai ⟨rfl,(of_decide_eq_true cL.out).symm⟩]);go_wp2_with fail;rw[bc.out];go_ret;exact⟨rfl,cj.out⟩
      |false=>
       have bc:=Z (show D=[] by rw[ai.out,AP (fun L=>of_decide_eq_false cL.out L.2.symm)]);go_wp2_with fail;rw[bc.out];go_ret;exact⟨rfl,cj.out⟩
     ·have eV:(cM !=0)=true:=JY aP;have bc:=Z (show D=[] by rw[ai.out,AP (fun L=>aP L.1)]);clear aP;go_wp2_with fail;rw[bc.out];go_ret;exact⟨rfl,cj.out⟩
end Go.Proofs.YtdhfhphbkfgamaaGreat
