/- PrintTells: a part of its proof. -/
import Derived.Test.YtdhfhphbkfgamaaGreatEu
import Derived.Test.YtdhfhphbkfgamaaGreatUo
set_option maxRecDepth 100000
set_option maxHeartbeats 64000000
namespace Go.Proofs.YtdhfhphbkfgamaaGreat
open Go.RowKit Lx
theorem Qf.WS {n:V} (h:Qf n):Un n:=⟨h.Wf,Ef h.name (by decide),fun s hs=>Ef (h.AY s hs) (by decide)⟩
theorem QF {h z:World} {e e':TypeId} {v u:Value} {n m:Nat} {xs G:List Value} (F:Own h e' 1 v n xs 0) (I:Own h e 1 u m G 0) (o:Obj) (J:Az (fun k=>u.ownBlock=some k) (h.alloc o) z) (K:e≠e'):Own z e' 1 v n xs 0:=
 (F.alloc o).Bl J fun _ hk hs=>K ((Own.AN (I.alloc o) hs).uniq (Own.AN (F.alloc o) hk))
theorem Ip {l:List V} (h:D7 l=true):Hg l∧1≤l.length∧l.length≤300:=by
 unfold D7 at h;rw[Bool.and_eq_true,Bool.and_eq_true,decide_eq_true_eq,decide_eq_true_eq]at h;obtain⟨⟨I,J⟩,F⟩:=h;cases G:FX l []with
 |none=>rw[G]at F;cases F
 |some K=>
  have hk:=Kr l [] [] K rfl (fun i z=>by simp at z) G;refine⟨fun i z k L=>?_,I,J⟩;have:=hk i z k L;simpa using this
def GB (n:V):Bool:=match n.kids[2]? with
 |some k=>decide (0≤k)
 |none=>false
theorem QH {n:V} (h: ¬2<n.kids.length):GB n=false:=by unfold GB;rw[List.getElem?_eq_none (by omega)]
theorem Lj {n:V} (h:2<n.kids.length):GB n=decide ((0:Int)≤n.kids[2]):=by unfold GB;rw[List.getElem?_eq_getElem h]
theorem Oo {l:List V} {n:V} (h:GB n=false):Dc l n=false:=by
 unfold GB at h;unfold Dc;cases hk:n.kids[2]? with
 |none=>rfl
 |some k=>rw[hk]at h;simp only[]at h⊢;rw[h];rfl
theorem KI {n:V} (h:GB n=true): ∃h:2<n.kids.length,(0:Int)≤n.kids[2]:=by
 unfold GB at h;cases hk:n.kids[2]? with
 |none=>rw[hk]at h;cases h
 |some k=>
  rw[hk]at h;obtain⟨z,rfl⟩:=List.getElem?_eq_some_iff.1 hk;exact⟨z,of_decide_eq_true h⟩
theorem Q8 {l:List V} {n:V} (h:Dc l n=true):2<n.kids.length:=by
 cases z:GB n with
 |false=>rw[Oo z]at h;cases h
 |true=>exact(KI z).1
theorem Si {l:List V} {n:V} (h:2<n.kids.length) (m:Nat) (z:n.kids[2]=(m:Int)) (F:m<l.length):Dc l n=((l[m]).kind==10&&(l[m]).AK.isEmpty):=by
 unfold Dc;rw[List.getElem?_eq_getElem h,z];simp only[Iv];rw[show l.getD m PV=l[m] by simp[F],At (by omega:(0:Int)≤(m:Int)),Bool.true_and]
def UN (D:List UInt8) (w:World) (e:Ending) (w':World):Prop:=e=.returned (sv D)∧w.grownBy w' none
theorem Z22 {P:Prop} (h:P:=by
 go_roundg (aF-1);case rel=>exact⟨i+1,by rw[Int.natCast_add];rfl,by omega,by have:=aj.out;have:=ak.out;omega,by rw[ap.out.1,ap.out.2,aB.out];exact aC.out⟩
 case measure=>have:=aj.out;have:=ak.out;omega):P:=h
theorem Z23 {P:Prop} (h:P:=by
 go_roundg (gk-1);case rel=>exact⟨r+1,by rw[Int.natCast_add];rfl,by omega,by have:=bj.out;omega,by rw[au.out,aw.out,ax.out];exact bT.out⟩
 case measure=>have:=bj.out;omega):P:=h
theorem Z24 {P:Prop} (h:P:=by
 go_wp2_with fail;go_meet;exact⟨by rw[aA.out],AF (AB _ none) _⟩):P:=h
theorem Z25 {P:Prop} (h:P:=by
 go_wp2_with fail;rw[bd.out];go_ret;exact⟨rfl,cj.out⟩):P:=h
theorem Z26 {P:Prop} (h:P:=by
 go_wp2_with fail;go_meet;exact⟨by rw[a7.out],rfl⟩):P:=h
theorem MF (n0:Nat) (l:List V) (v:Value) (w:World) (L:DZ n0 w v l) (aD: ∀n∈l,Qf n):Calls Tryz.prog 7 #[v] w (UN (OZ l) w):=by
 obtain⟨dP,dQ,rfl,cO⟩:=L.form;have bB:=Z (Oa n0 l _ w L);have bC:=Z L;have cP:=Z aD;obtain⟨o,h⟩: ∃o,D7 l=o:=⟨_,rfl⟩;rw[h]at bB;have bD:=Z h;obtain⟨D,bE⟩: ∃D,OZ l=D:=⟨_,rfl⟩;rw[bE];have ck:=Z bE;obtain⟨M,bF⟩: ∃M,l.length=M:=⟨_,rfl⟩;rw[bF]at cO bB bC⊢;have aE:=Z bF;clear L aD h bE bF;go_enter Tryz.func7,Tryz.ntmps7;go_wp2_with fail;refine bB.out.mono ?_;rintro e cl ⟨rfl,bG⟩;have cm:=Z bG;have bH:=Z (bC.out.pf (PF.AL (n0:=n0) bG));clear bG;cases o with
 |false=>
  have ai:=Z (show D=[] by rw[←ck.out];unfold OZ;rw[U (by rw[bD.out];decide)]);go_wp2_with fail;rw[ai.out];go_ret;exact⟨rfl,cm.out⟩
 |true=>
  have bI:=Z (Ip bD.out);have dR:1≤M:=(by have:=bI.out.2.1;have:=aE.out;omega);have dS:(M:Int)≤300:=(by have:=bI.out.2.2;have:=aE.out;omega);have J:=Z (AE.nil cl);go_wp2_with fail;go_loopg [4,5,6] (M+1) (fun g cQ cR cS wr=> ∃i:Nat,cS=.int .i64 i∧i≤M∧g+i=M+1∧AE cl wr cQ cR (Ca l i).1 (Ca l i).2);case atStart=>exact⟨0,rfl,DM _,rfl,J.out⟩
  case round=>
   clear J;obtain⟨i,rfl,dT,cn,be⟩:=hrel;have aj:=Z cn;have J:=Z be;obtain⟨A,aR⟩: ∃A,(Ca l i).1=A:=⟨_,rfl⟩;obtain⟨E,bf⟩: ∃E,(Ca l i).2=E:=⟨_,rfl⟩;have aS:A.length=i:=(by rw[←aR];exact NX i);have co:E.length=i:=(by rw[←bf];exact NW i);have cp:=Z (show∀s∈A,s.length≤8192 by rw[←aR];exact Rh i);rw[aR,bf]at J be;have bJ:=Z (A8 aR bf);have aT:=Z (A8 aS co);obtain⟨dU,dV,rfl,_,_⟩:=be.b.form;obtain⟨aF,cq⟩: ∃aF,aF=gk:=⟨_,rfl⟩;have ak:=Z cq;clear cn be aR bf aS co cq;obtain⟨bK,cT⟩: ∃x,x=wr:=⟨_,rfl⟩;subst cT;by_cases bg:i<M
   ·have cU:decide ((i:Int)<(M:Int))=true:=At (by omega);have cV:decide (i<M)=true:=At bg;have aU:i<l.length:=(by have:=aE.out;omega);obtain⟨g,dW,dX,dY,dZ,d0,d1,d2,cW,-,-,G,aV,aW,aX,bh,bL,bM,bN,bO,aq⟩:=bH.out.at_ i aU;injection cW with O aY aZ;subst O;subst aZ;clear aY;obtain⟨n,aG⟩: ∃n,l[i]=n:=⟨_,rfl⟩;rw[aG]at aV aW aX bh;have d3:=Z (show∀L:i<l.length,l[i]=n from fun _=>aG);have cr:=Z (cP.out n (by rw[←aG];exact List.getElem_mem aU));obtain⟨d4,d5,d6,d7,d8,d9,d',ea,eb,ec,rfl,rfl,rfl,rfl,rfl⟩:=aV.C1;have ed:(0:Int)≤(i:Int)∧(i:Int)<(M:Int):=(by omega);have ee:(i:Int)+1≤9223372036854775807:=(by omega);have bi:=Z aV.kids;have cX:=Z aV;unfold sv at aX;have aW:=Z aW;have aX:=Z aX;have bh:=Z bh;have bL:=Z bL;have bM:=Z bM;have bN:=Z bN;have bO:=Z bO;have aq:=Z aq;have cY:n.kids.length≤100000:=cr.out.kids;have cs:=Z (show∀k∈n.kids,(k= -1∧n.kind=14)∨(0≤k∧k<(i:Int)) by rw[←aG];exact bI.out.1 i aU);obtain⟨al,bP⟩: ∃m,n.kids.length=m:=⟨_,rfl⟩;rw[bP]at cY bi aq;have ag:=Z bP;have cZ:=Z (Qv i aU n aG);have K:=Z (K3.nil bK);clear aG aV bP aU bg;go_wp2_with fail;go_loopg [7,8,9,10] (al+1) (fun c0 c1 c2 c5 c6 a0=> ∃r:Nat,c6=.int .i64 r∧r≤al∧c0+r=al+1∧K3 bK a0 c1 c2 c5 ((Eg A n).take r) ((Dz l n).take r) ((Cz E n).take r));case atStart=>exact⟨0,rfl,DM _,rfl,K.out⟩
    case round=>
     clear K;obtain⟨r,rfl,c7,ct,bQ⟩:=hrel;have bj:=Z ct;have K:=Z bQ;have N:=Z (AI J.out.g bQ.g);obtain⟨X,aH⟩: ∃y,(Eg A n).take r=y:=⟨_,rfl⟩;obtain⟨I,aI⟩: ∃y,(Dz l n).take r=y:=⟨_,rfl⟩;obtain⟨aJ,aK⟩: ∃y,(Cz E n).take r=y:=⟨_,rfl⟩;have bk:X.length=r:=(by rw[←aH,List.length_take,Ir,ag.out];omega);have bl:I.length=r:=(by rw[←aI,List.length_take,JV,ag.out];omega);have cu:aJ.length=r:=(by rw[←aK,List.length_take,Im,ag.out];omega);rw[aH,aI,aK]at K;have bR:=Z (A8 aH (A8 aI aK));have ef:=Z (A8 bk (A8 bl cu));have u7:=AH N.out G aq.out;have a1:=DP G N.out.size;clear bQ ct;by_cases bm:r<al
     ·have c8:decide ((r:Int)<(al:Int))=true:=At (by omega);have c9:decide (r<al)=true:=At bm;have aL:r<n.kids.length:=(by have:=ag.out;omega);obtain⟨am,aM⟩: ∃am,n.kids[r]=am:=⟨_,rfl⟩;obtain⟨cv,cw,a2,ar,W⟩:=E0.get bi.out r aL;subst a2;rw[aM]at W;have bS:=Z W;have W:=AH N.out ar bS.out;have eg:(0:Int)≤(r:Int)∧(r:Int)<(al:Int):=(by omega);have eh:(r:Int)+1≤9223372036854775807:=(by omega);have c':=Z (cs.out am (by rw[←aM];exact List.getElem_mem aL));have au:=Z (QJ (A:=A) n r aL);have aw:=Z (Ob (l:=l) n r aL);have ax:=Z (M3 (E:=E) n r aL);rw[aM,bR.out.1]at au;rw[aM,bR.out.2.1]at aw;rw[aM,bR.out.2.2]at ax;clear aM aL bm aH aI aK;by_cases an:am<0
      ·have a3:decide (am<0)=true:=At an;have au:=Z (show(Eg A n).take (r+1)=X++[[]]from by have:=au.out;rw[Ah an]at this;exact this);have aw:=Z (show(Dz l n).take (r+1)=I++[false]from by have:=aw.out;rw[Ah an]at this;exact this);have ax:=Z (show(Cz E n).take (r+1)=aJ++[false]from by have:=ax.out;rw[Ah an]at this;exact this);go_wp2_with (at_builtin;first
        |(refine AU 9 (.string ⟨#[]⟩) 1 16 Tryz.underlying27 Du rfl _ _ _ 0 _ 1 [sv []] rfl rfl (Own.alloc K.out.t _) (by omega) (Jd _ _ [] rfl) (by unfold maxLen;omega) (by omega) ?_;intro aa ab h z F _;(have ah:=Z (K.out.Sz _ [] h z F);clear h z F))
        |(refine AU 4 (.bool false) 1 1 Tryz.underlying48 E6 rfl _ _ _ 0 _ 1 [.bool false] rfl rfl (Own.alloc ah.out.b _) (by omega) (Jh _ _ false rfl) (by unfold maxLen;omega) (by omega) ?_;intro aa ab h z F _;(have ac:=Z (ah.out.MQ _ false h z F);clear h z F))
        |(refine AU 4 (.bool false) 1 1 Tryz.underlying48 E6 rfl _ _ _ 0 _ 1 [.bool false] rfl rfl (Own.alloc ac.out.a _) (by omega) (Jh _ _ false rfl) (by unfold maxLen;omega) (by omega) ?_;intro aa ab h z F _;(have bT:=Z (ac.out.WX _ false h z F);clear h z F)))
       exact Z23
      ·have a3:decide (am<0)=false:=Aq an;obtain⟨m,rfl⟩: ∃m:Nat,am=(m:Int):=⟨am.toNat,by omega⟩;have da:(0:Int)≤(m:Int)∧(m:Int)<(i:Int):=by
        rcases c'.out with⟨L,_⟩|L
        ·omega
        ·exact L
       have ay:m<l.length:=(by have:=aE.out;omega);have db:(m:Int)<(M:Int):=(by omega);obtain⟨s,hs⟩: ∃s,A.getD m []=s:=⟨_,rfl⟩;obtain⟨aN,bU⟩: ∃b,E.getD m false=b:=⟨_,rfl⟩;obtain⟨bn,bV⟩: ∃k,(l[m]).kind=k:=⟨_,rfl⟩;have bW:m<A.length:=(by have:=aT.out.1;omega);have bX:m<E.length:=(by have:=aT.out.2;omega);have ei:(m:Int)<(A.length:Int):=(by omega);have ej:(m:Int)<(E.length:Int):=(by omega);have cx:A[m]=s:=(by rw[←hs];simp[bW]);have cy:E[m]=aN:=(by rw[←bU];simp[bX]);have au:=Z (show(Eg A n).take (r+1)=X++[s] by have:=au.out;rw[U an,Int.toNat_natCast,hs]at this;exact this);have aw:=Z (show(Dz l n).take (r+1)=I++[bn==7] by have:=aw.out;rw[U an,Iv,show l.getD m PV=l[m] by simp[ay],bV]at this;exact this);have ax:=Z (show(Cz E n).take (r+1)=aJ++[aN] by have:=ax.out;rw[U an,Int.toNat_natCast,bU]at this;exact this);obtain⟨dc,dd,de,bY,bZ,aO⟩:=Jv J.out.t m (by omega) (sv s) (by rw[List.getElem?_map,List.getElem?_eq_getElem bW,cx];rfl);obtain⟨ek,el,em,df,cz,b0⟩:=Jv J.out.b m (by omega) (.bool aN) (by rw[List.getElem?_map,List.getElem?_eq_getElem bX,cy];rfl);obtain⟨dg,dh,di,dj,dk,dl,dm,dn,b1,-,-,-,-,bo,-,-,-,-,-,-,-⟩:=bH.out.at_ m ay;injection b1 with O aY aZ;injection O with O;injection O with O b2;subst O b2;clear aY aZ;rw[bV]at bo;subst bY;injection df with dp dq dr;subst dp dr;unfold sv at aO;have ds:=Z aO;have dt:=Z b0;have du:=Z bo;have aO:=AH K.out.g bZ ds.out;have en:=DP bZ K.out.g.size;clear hs bU bV bW bX cx cy dq b0 bo ay;go_upto_region 19 with(fail);go_upto_region 20 with(at_builtin;(refine AU 9 (.string ⟨#[]⟩) 1 16 Tryz.underlying27 Du rfl _ _ _ 0 _ 1 [sv s] rfl rfl (Own.alloc K.out.t _) (by omega) (Jd _ _ s rfl) (by unfold maxLen;omega) (by omega) ?_;intro aa ab h z F _;(have ah:=Z (K.out.Sz _ s h z F);have u7:=AH (AI J.out.g ah.out.g) G aq.out;have a1:=DP G (AI J.out.g ah.out.g).size;have W:=AH (AI J.out.g ah.out.g) ar bS.out;have bo:=AH (AI J.out.g ah.out.g) G du.out;clear h z F)));go_upto_region 21 with(at_builtin;(refine AU 4 (.bool false) 1 1 Tryz.underlying48 E6 rfl _ _ _ 0 _ 1 [.bool (bn==7)] rfl rfl (Own.alloc ah.out.b _) (by omega) (Jh _ _ (bn==7) rfl) (by unfold maxLen;omega) (by omega) ?_;intro aa ab h z F _;(have ac:=Z (ah.out.MQ _ (bn==7) h z F);have u7:=AH (AI J.out.g ac.out.g) G aq.out;have a1:=DP G (AI J.out.g ac.out.g).size;have W:=AH (AI J.out.g ac.out.g) ar bS.out;have b0:=AH ac.out.g cz dt.out;have eo:=DP cz ac.out.g.size;clear h z F)));go_wp2_with (at_builtin;(refine AU 4 (.bool false) 1 1 Tryz.underlying48 E6 rfl _ _ _ 0 _ 1 [.bool aN] rfl rfl (Own.alloc ac.out.a _) (by omega) (Jh _ _ aN rfl) (by unfold maxLen;omega) (by omega) ?_;intro aa ab h z F _;(have bT:=Z (ac.out.WX _ aN h z F);clear h z F)));exact Z23
     ·obtain rfl:r=al:=by omega
      have c8:decide ((r:Int)<(r:Int))=false:=Aq (by omega);have c9:decide (r<r)=false:=Aq bm;have a4:=Z (show X=Eg A n∧I=Dz l n∧aJ=Cz E n from⟨by rw[←aH];exact List.take_of_length_le (by rw[Ir,ag.out];omega),by rw[←aI];exact List.take_of_length_le (by rw[JV,ag.out];omega),by rw[←aK];exact List.take_of_length_le (by rw[Im,ag.out];omega)⟩);obtain⟨ep,eq,rfl,_,_⟩:=K.out.t.form;obtain⟨es,et,rfl,_,_⟩:=K.out.b.form;obtain⟨eu,ev,rfl,_,_⟩:=K.out.a.form;clear aH aI aK bm c7;have b3:=ag.out;have bp:=Z (show X.length=n.kids.length∧I.length=n.kids.length from⟨by rw[b3];exact bk,by rw[b3];exact bl⟩);have ew:X.length≤r∧r≤X.length:=(by omega);have ex:I.length≤r∧r≤I.length:=(by omega);have cA:=Z (A8 bk bl);clear b3 bk bl cu;obtain⟨C,cB⟩: ∃C,GB n=C:=⟨_,rfl⟩;have a5:=Z cB;obtain⟨ao,b4⟩: ∃y,Dc l n=y:=⟨_,rfl⟩;have b5:=Z b4;obtain⟨bq,b6⟩: ∃y,IC n X I aJ ao=y:=⟨_,rfl⟩;have dv:=Z b6;have ap:=Z (show(Ca l (i+1)).1=A++[bq]∧(Ca l (i+1)).2=E++[LA l n] by
       rw[cZ.out,bJ.out.1,bJ.out.2,b4,←a4.out.1,←a4.out.2.1,←a4.out.2.2,b6];exact⟨rfl,rfl⟩)
      clear cB b4 b6;obtain⟨cC,dw⟩: ∃x,x=wr:=⟨_,rfl⟩;subst dw;go_upto_region 23 with(fail);go_cut [112] (fun dx a0=>dx=.bool C∧cC=a0);case first=>
       by_cases ey:2<X.length
       ·have dy:decide ((2:Int)<(X.length:Int))=true:=At (by omega);have az:2<n.kids.length:=(by have:=bp.out.1;omega);obtain⟨aP,ad⟩: ∃k,n.kids[2]=k:=⟨_,rfl⟩;obtain⟨cv,cw,a2,ar,W⟩:=E0.get bi.out 2 az;subst a2;rw[ad]at W;have W:=AH N.out ar W;have dz:(0:Int)≤2∧(2:Int)<(r:Int):=(by omega);by_cases a6:0≤aP
        ·have a3:decide ((0:Int)≤aP)=true:=At a6;have a7:=Z (show C=true by rw[←a5.out,Lj az,ad,a3]);clear ad;exact Z26
        ·have a3:decide ((0:Int)≤aP)=false:=Aq a6;have a7:=Z (show C=false by rw[←a5.out,Lj az,ad,a3]);clear ad;exact Z26
       ·have dy:decide ((2:Int)<(X.length:Int))=false:=Aq (by omega);have a7:=Z (show C=false by rw[←a5.out];exact QH (by have:=bp.out.1;omega));exact Z26
      case rest=>
      obtain⟨rfl,dA⟩:=hcut;subst dA;go_upto_if 112 with(fail);go_cut [11] (fun dB a0=>dB=.bool ao∧cC.grownBy a0 none);case first=>
       cases C with
       |false=>
        have aA:=Z (show ao=false by rw[←b5.out];exact Oo a5.out);go_wp2_with fail;go_meet;exact⟨by rw[aA.out],AB _ none⟩
       |true=>
        obtain⟨az,a6⟩:=KI a5.out;obtain⟨aP,ad⟩: ∃k,n.kids[2]=k:=⟨_,rfl⟩;obtain⟨cv,cw,a2,ar,W⟩:=E0.get bi.out 2 az;subst a2;rw[ad]at W a6;have W:=AH N.out ar W;have dz:(0:Int)≤2∧(2:Int)<(r:Int):=(by have:=bp.out.1;omega);obtain⟨m,rfl⟩: ∃m:Nat,aP=(m:Int):=⟨aP.toNat,by omega⟩;have da:(0:Int)≤(m:Int)∧(m:Int)<(i:Int):=by
         rcases cs.out (m:Int) (by rw[←ad];exact List.getElem_mem az)with⟨L,_⟩|L
         ·omega
         ·exact L
        have ay:m<l.length:=(by have:=aE.out;omega);have db:(m:Int)<(M:Int):=(by omega);obtain⟨dg,dh,di,dj,dk,dl,dm,dn,b1,-,-,-,br,b7,bs,b8,c3,c4,cD,cE,cF⟩:=bH.out.at_ m ay;injection b1 with O aY aZ;injection O with O;injection O with O b2;subst O b2;clear aY aZ;obtain⟨d,b9⟩: ∃d,l[m]=d:=⟨_,rfl⟩;have b':=Z (show ao=(d.kind==10&&d.AK.isEmpty) by rw[←b5.out,Si az m ad ay,b9]);rw[b9]at br b7 bs b8;obtain⟨ez,eA,eB,eC,eD,eE,eF,eG,eH,eI,rfl,rfl,rfl,rfl,rfl⟩:=br.C1;have eJ:(d.AK.length:Int)≤9223372036854775807:=(by obtain⟨_,_,_,_,eK,_⟩:=br.DB.now;omega);unfold sv at bs;have b7:=AH N.out G b7;have bs:=AH N.out G bs;have b8:=AH N.out G b8;have c3:=AH N.out G c3;have c4:=AH N.out G c4;have cD:=AH N.out G cD;have cE:=AH N.out G cE;have cF:=AH N.out G cF;clear b9 br ad ay;by_cases a8:d.kind=10
        ·have bt:(d.kind==10)=true:=Wi a8;by_cases bu:d.AK.length=0
         ·have dC:((d.AK.length:Int)==0)=true:=Wi (by omega);have aA:=Z (show ao=true by rw[b'.out,bt,List.isEmpty_iff.2 (List.length_eq_zero_iff.1 bu)];rfl);clear a8 bu;exact Z24
         ·have dC:((d.AK.length:Int)==0)=false:=Ba (by omega);have aA:=Z (show ao=false by
           rw[b'.out,bt,Bool.true_and];cases hx:d.AK.isEmpty with
           |false=>rfl
           |true=>exact Ai (by rw[List.isEmpty_iff.1 hx];rfl) bu)
          clear a8 bu;exact Z24
        ·have bt:(d.kind==10)=false:=Ba a8;have aA:=Z (show ao=false by rw[b'.out,bt];rfl);clear a8;exact Z24
      case rest=>
      obtain⟨rfl,bv⟩:=hcut;have dD:=Z bv;have ae:=Z (AI N.out bv);have ca:=Z (K.out.D8 bv);have cb:=Z (M7 n0 n _ _ _ _ _ X I aJ ao _ _ _ wc (FP.pf cX.out (PF.AL (n0:=n0) ae.out)) (JH ca.out.t) (JH ca.out.b) (JH ca.out.a) (by rw[cA.out.1,cA.out.2]) (fun aQ=>by rw[bp.out.1];exact Q8 (b5.out.trans aQ)) cr.out.WS (by rw[a4.out.1];exact Sg cp.out n));rw[dv.out,ag.out]at cb;unfold AT sv at cb;have u0:=AH ae.out G aW.out;have u1:=AH ae.out G aX.out;have u2:=AH ae.out G bh.out;have u3:=AH ae.out G bL.out;have u4:=AH ae.out G bM.out;have u5:=AH ae.out G bN.out;have u6:=AH ae.out G bO.out;have u7:=AH ae.out G aq.out;have a1:=DP G ae.out.size;clear bv;go_wp2_with fail;refine cb.out.mono ?_;rintro e cG ⟨rfl,a9⟩;have a':=Z (AI dD.out a9);have cc:=Z (J.out.D8 (AI K.out.g a'.out));have dE:=Z (GW a'.out K.out.b);have eL:A.length≤300:=(by have:=aT.out.1;omega);have eM:E.length≤300:=(by have:=aT.out.2;omega);clear a9 u0 u1 u2 u3 u4 u5 u6 u7 a1;go_upto_region 27 with(at_builtin;(refine AU 9 (.string ⟨#[]⟩) 1 16 Tryz.underlying27 Du rfl _ _ _ 0 _ 1 [sv bq] rfl rfl (Own.alloc cc.out.t _) (by omega) (Jd _ _ bq rfl) (by unfold maxLen;omega) (by omega) ?_;intro aa ab h z F _;(have af:=Z (cc.out.Sz _ bq h z F);have dF:=Z (QF dE.out cc.out.t _ z (by decide));have u0:=AH af.out.g G aW.out;have a1:=DP G af.out.g.size;clear h z F)));have bw:=Z (show LA l n=(n.kind==7||(n.kind==6&&I.getLastD false)) by rw[a4.out.2.1];rfl);by_cases ba:n.kind=7
      ·have bb:(n.kind==7)=true:=Wi ba;have aB:=Z (show LA l n=true by rw[bw.out,bb];rfl);clear ba;go_wp2_with (at_builtin;(refine AU 4 (.bool false) 1 1 Tryz.underlying48 E6 rfl _ _ _ 0 _ 1 [.bool true] rfl rfl (Own.alloc af.out.b _) (by omega) (Jh _ _ true rfl) (by unfold maxLen;omega) (by omega) ?_;intro aa ab h z F _;(have aC:=Z (af.out.MQ _ true h z F);clear h z F)));exact Z22
      ·have bb:(n.kind==7)=false:=Ba ba;by_cases bx:n.kind=6
       ·have bz:(n.kind==6)=true:=Wi bx;clear bx ba;by_cases a6:0<I.length
        ·have dG:decide ((0:Int)<(I.length:Int))=true:=At (by omega);obtain⟨m,bc⟩: ∃m,I.length=m+1:=⟨I.length-1,by omega⟩;have dH:(I.length:Int)-1=(m:Int):=(by omega);have dI:(0:Int)≤(m:Int)∧(m:Int)<(I.length:Int):=(by omega);obtain⟨lb,cd⟩: ∃b,I.getLastD false=b:=⟨_,rfl⟩;have cH:I[m]? =some lb:=by
          rw[←cd,List.getLastD_eq_getLast?,List.getLast?_eq_getElem?,bc,Nat.add_sub_cancel,List.getElem?_eq_getElem (by omega)];rfl
         obtain⟨eN,eO,eP,dJ,eQ,eR⟩:=Jv dF.out m (by omega) (.bool lb) (by rw[List.getElem?_map,cH];rfl);injection dJ with dK dL dM;subst dK dM;have aB:=Z (show LA l n=lb by rw[bw.out,bb,bz,cd,Bool.false_or,Bool.true_and]);clear cd cH dL bc;go_wp2_with (at_builtin;(refine AU 4 (.bool false) 1 1 Tryz.underlying48 E6 rfl _ _ _ 0 _ 1 [.bool lb] rfl rfl (Own.alloc af.out.b _) (by omega) (Jh _ _ lb rfl) (by unfold maxLen;omega) (by omega) ?_;intro aa ab h z F _;(have aC:=Z (af.out.MQ _ lb h z F);clear h z F)));exact Z22
        ·have dG:decide ((0:Int)<(I.length:Int))=false:=Aq (by omega);have aB:=Z (show LA l n=false by
          have dN:I=[]:=List.length_eq_zero_iff.1 (by omega);rw[bw.out,bb,bz,dN];rfl)
         go_wp2_with (at_builtin;(refine AU 4 (.bool false) 1 1 Tryz.underlying48 E6 rfl _ _ _ 0 _ 1 [.bool false] rfl rfl (Own.alloc af.out.b _) (by omega) (Jh _ _ false rfl) (by unfold maxLen;omega) (by omega) ?_;intro aa ab h z F _;(have aC:=Z (af.out.MQ _ false h z F);clear h z F)));exact Z22
       ·have bz:(n.kind==6)=false:=Ba bx;have aB:=Z (show LA l n=false by rw[bw.out,bb,bz];rfl);clear bx ba;go_wp2_with (at_builtin;(refine AU 4 (.bool false) 1 1 Tryz.underlying48 E6 rfl _ _ _ 0 _ 1 [.bool false] rfl rfl (Own.alloc af.out.b _) (by omega) (Jh _ _ false rfl) (by unfold maxLen;omega) (by omega) ?_;intro aa ab h z F _;(have aC:=Z (af.out.MQ _ false h z F);clear h z F)));exact Z22
   ·obtain rfl:i=M:=by omega
    have cU:decide ((i:Int)<(i:Int))=false:=Aq (by omega);have cV:decide (i<i)=false:=Aq bg;have aS:A.length=i:=aT.out.1;obtain⟨m,bc⟩: ∃m,i=m+1:=⟨i-1,by omega⟩;have dH:(A.length:Int)-1=(m:Int):=(by omega);have dI:(0:Int)≤(m:Int)∧(m:Int)<(A.length:Int):=(by omega);obtain⟨s,hs⟩: ∃s,A.getLastD []=s:=⟨_,rfl⟩;have aD:A[m]? =some s:=by
     rw[←hs,List.getLastD_eq_getLast?,List.getLast?_eq_getElem?,aS,bc,Nat.add_sub_cancel,List.getElem?_eq_getElem (by omega)];rfl
    have eS:s.length≤8192:=cp.out s (List.mem_of_getElem? aD);obtain⟨dc,dd,de,bY,bZ,aO⟩:=Jv J.out.t m (by omega) (sv s) (by rw[List.getElem?_map,aD];rfl);subst bY;unfold sv at aO;have cI:=Z (show D=if 4096<s.length then []else if(B9 s).e=0∧(B9 s).ns=l then s else [] by rw[←ck.out];unfold OZ;rw[Ah bD.out,aE.out,bJ.out.1,hs]);have eT:=sz s;have cJ:=Z (AI cm.out J.out.g);have eU:(A.length:Int)≤300:=(by omega);clear hs aD bc aS bg;by_cases bA:4096<s.length
    ·have dO:decide ((4096:Int)<(s.length:Int))=true:=At (by omega);have ai:=Z (show D=[] by rw[cI.out,Ah bA]);clear bA;go_wp2_with fail;rw[ai.out];go_ret;exact⟨rfl,cJ.out⟩
    ·have dO:decide ((4096:Int)<(s.length:Int))=false:=Aq (by omega);have ce:=Z (Nt s bK (by omega));obtain⟨P,cf⟩: ∃P,B9 s=P:=⟨_,rfl⟩;have ai:=Z (show D=if P.e=0∧P.ns=l then s else [] by rw[cI.out,U bA,cf]);rw[cf]at ce;unfold Er sv at ce;clear bA cf;go_wp2_with fail;refine ce.out.mono ?_;rintro e cG ⟨pv,rfl,cg,_,a9⟩;have a':=Z (AI cJ.out a9);obtain⟨pa,eV,rfl,_⟩:=(cg.OR (n0:=n0)).form;have cK:=Z (Mf n0 l P.ns _ _ cG (bC.out.pf (PF.AL (n0:=n0) a'.out)) cg.OR);obtain⟨b,ch⟩: ∃b,decide (l=P.ns)=b:=⟨_,rfl⟩;rw[ch]at cK;have cL:=Z ch;obtain⟨cM,ci⟩: ∃y,P.e=y:=⟨_,rfl⟩;rw[ci]at ai;simp only[ci];clear cg a9 ch ci aO;go_wp2_with fail;refine cK.out.mono ?_;rintro e eW ⟨rfl,cN⟩;have cj:=Z (AI a'.out cN);clear cN;by_cases aQ:cM=0
     ·subst aQ;cases b with
      |true=>
       have bd:=Z (show D=s by rw[ai.out,Ah ⟨rfl,(of_decide_eq_true cL.out).symm⟩]);exact Z25
      |false=>
       have bd:=Z (show D=[] by rw[ai.out,U (fun L=>of_decide_eq_false cL.out L.2.symm)]);exact Z25
     ·have eX:(cM !=0)=true:=JG aQ;have bd:=Z (show D=[] by rw[ai.out,U (fun L=>aQ L.1)]);clear aQ;exact Z25
end Go.Proofs.YtdhfhphbkfgamaaGreat
