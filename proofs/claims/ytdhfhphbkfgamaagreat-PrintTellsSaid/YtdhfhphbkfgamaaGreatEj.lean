/- PrintTells: a part of its proof. -/
import Derived.Test.YtdhfhphbkfgamaaGreatEi
set_option maxRecDepth 100000
set_option maxHeartbeats 64000000
namespace Go.Proofs.YtdhfhphbkfgamaaGreat
section
open Go.RowKit Lx
def Qw (bad:World→Value→Prop) (fn:FuncId) (r:EO) (n:Nat):Prop:= ∀rb T d ts w,BS w rb T (.ok ts d)→ts.length≤n→Calls Tryz.prog fn #[.pointer (some ⟨rb,0,none⟩)] w (F0 (Fe w) bad rb T d w (r d ts []))
def LJ:World→Value→Prop:=fun _ v=>v=.slice none 0 0
def XU (w0:World):World→Value→Prop:=fun w v=> ∃ns,Fe w0 w ns v
theorem Fe.rb {w0 w w':World} {rb:Nat} {ns:List V} {v:Value} (h:Fe w0 w ns v) (z:w.grownBy w' (some rb)) (F:Bk w rb 86):Fe w0 w' ns v:=⟨h.1.Mb z F,h.2⟩
theorem Fe.low {w0 z w:World} {ns:List V} {v:Value} (h:Fe z w ns v) (hs:w0.heap.size≤z.heap.size):Fe w0 w ns v:=⟨h.1.mono (fun k hk=>DP hk hs),h.2.1,h.2.2.1,fun g F=>Ef hs (h.2.2.2 g F)⟩
theorem Fe.grown {w0 w w':World} {ns:List V} {v:Value} (h:Fe w0 w ns v) (z:w.grownBy w' none):Fe w0 w' ns v:=⟨h.1.grown z,h.2⟩
theorem Fe.form {w0 w:World} {ns:List V} {v:Value} (h:Fe w0 w ns v): ∃a c,v=.slice a ns.length c:=by
 obtain⟨a,c,e,_⟩:=h.1.form;exact⟨a,c,e⟩
theorem Fe.nil (w0 w:World):Fe w0 w [] (.slice none 0 0):=⟨Cm.nil _ _,fun x hx=>(by cases hx),by simp,fun g h=>(by cases h)⟩
theorem Dm {av:Nat→Prop} {w:World} (kind:Int):Bi av w (.slice none 0 0) (.slice none 0 0) (.slice none 0 0) (.slice none 0 0) (.slice none 0 0) { kind:=kind } :=
 ⟨Own.nil _ _ _ _,Own.nil _ _ _ _,Own.nil _ _ _ _,⟨[],Own.nil _ _ _ _,fun b h=>(by cases h),fun i z=>Ai z (by simp)⟩,Own.nil _ _ _ _,fun k hk e=>(by cases hk),fun k hk e=>(by cases hk),fun k hk e=>(by cases hk),fun k hk e=>(by cases hk)⟩
theorem MO {av:Nat→Prop} {w:World} {v:Value} {ms:List V} (z:Cm av w v ms):GA av (w.alloc (.cells #[v] 22)) (.slice (some ⟨w.heap.size,0,none⟩) 1 1) [ms]:=by
 refine⟨[v],⟨rfl,.inr ⟨w.heap.size,0,1,_,(0,0),rfl,Y.new w 22 _,BL _,BL _,by unfold maxLen;omega,by show 0+1*1≤1;omega,fun j F=>(by(have I:j<1:=F);(have h:j=0:=by omega);subst h;rfl)⟩⟩,fun i G=>?_⟩;have h:i=0:=(by simpa using G);subst h;exact⟨v,rfl,z.grown (AF (AB w none) _)⟩
theorem ML {av:Nat→Prop} {w:World} {v u:Value} {ms h:List V} (z:Cm av w v ms) (F:Cm av w u h):GA av (w.alloc (.cells #[v,u] 22)) (.slice (some ⟨w.heap.size,0,none⟩) 2 2) [ms,h]:=by
 refine⟨[v,u],⟨rfl,.inr ⟨w.heap.size,0,2,_,(0,0),rfl,Y.new w 22 _,BL _,BL _,by unfold maxLen;omega,by show 0+2*1≤2;omega,fun j G=>?_⟩⟩,fun i I=>?_⟩
 ·have J:j<2:=G;match j,J with
  |0,_=>rfl
  |1,_=>rfl
 ·have K:i<2:=I;match i,K with
  |0,_=>exact⟨v,rfl,z.grown (AF (AB w none) _)⟩
  |1,_=>exact⟨u,rfl,F.grown (AF (AB w none) _)⟩
theorem UC (ms:List V) (h:KB ms):Ek [] ms=ms:=by
 show []++ms.map (V.sh 0)=ms;rw[h.zero];rfl
theorem Fc {ms:List V} (h:KB ms) (z:ms≠[]):AP [ms]=(ms,[(ms.length:Int)-1]):=by
 show CJ ([],[]) ms=_;unfold CJ;rw[U z];simp only[UC ms h,List.length_nil,Nat.zero_add,List.nil_append]
theorem LX {ms:List V} (h:KB ms) (z:ms≠[]) (kind:Int):Bc [ms] { kind:=kind } =ms++[{ kind:=kind,kids:=[(ms.length:Int)-1] }]:=by
 unfold Bc;rw[Fc h z];rfl
theorem Lp {ms h:List V} (z:KB ms) (F:ms≠[]) (G:h≠[]) (kind:Int):Bc [ms,h] { kind:=kind } =Ek ms h++[{ kind:=kind,kids:=[(ms.length:Int)-1,((ms.length+h.length:Nat):Int)-1] }]:=by
 unfold Bc;have:AP [ms,h]=CJ (AP [ms]) h:=Fo [ms] h;rw[this,Fc z F];unfold CJ;rw[U G];rfl
theorem Left.ne {c:Nat} {ts G:List AX} {h:List V} {x:Int} (z:Left c ts [] x G h):h≠[]∧x=(h.length:Int)-1∧1≤h.length∧h.length+10*G.length+c≤10*ts.length:=by
 have F:=z.more;have I:=z.Dy;simp only[List.length_nil]at F I;exact⟨fun e=>by rw[e]at F;simp at F,z.last,by omega,by omega⟩
theorem IS:Jq∈Dr∧Qc∈Dr∧Cw∈Dr∧Bb∈Dr∧Fu∈Dr∧Fm∈Dr∧Bv∈Dr∧DO∈Dr∧ED∈Dr:=by decide
theorem Z0j {P:Prop} (h:P:=by
 have bY:=Z (show W≠[]from fun e=>by rw[e]at af;simp at af);clear N ay al O aX az af bm;go_wp2_with fail;go_roundg (gk-1);case rel=>exact⟨.ok am d,aR.out,aS.out,.inl ⟨f,am,W,rfl,aT.out,by have:=ae.out.2.2.2.2;have:=ac.out.2;have:=aj.out;have:=aa.out;omega,by have:=ae.out.2.2.2.2;have:=ac.out.2;have:=aj.out;have:=aa.out;omega,by have:=ae.out.2.2.2.2;have:=ac.out.2;have:=aj.out;have:=aa.out;omega,bW.out,bY.out,by have:=aW.out;have:=bX.out;omega⟩⟩
 case measure=>have:=aa.out;omega):P:=h
theorem Z0k {P:Prop} (h:P:=by
 unfold FO AT sv at M;simp only[]at M;go_wp2_with fail;refine M.out.mono ?_;rintro e bl ⟨v,rfl,N,ay,al⟩;obtain⟨bU,bV,rfl,_⟩:=N.form;have O:=AI (AF (AB ax none) _) al;have aR:=Z (aQ.out.grown O);have aS:=Z (AJ ad.out (Bp O));have aT:=Z (show R=.bad aO aP from bk.out);clear N ay al O;go_wp2_with fail;go_roundg (gk-1);case rel=>exact⟨.er aO aP,aR.out,aS.out,.inr ⟨aO,aP,rfl,aT.out,⟨_,_,_,rfl⟩,DM _⟩⟩
 case measure=>have:=aa.out;omega):P:=h
theorem Z0l {P:Prop} (h:P:=by
 have J:=ae.out.2.1;have ai:=ae.out.2.2.1;rw[IN _ _ (by omega),J];omega):P:=h
theorem Rj (n:Nat) (G:EO) (bZ: ∀d,Ju 3 (G d)) (b0: ∀d,K0 (G d)) (b1:Qw LJ 89 G n):Qw Sf 70 (fun d=>Fz (G d)) n:=by
 intro rb T d ts w h a5;have bx:=Z (fun ag ts ao X=>b1 rb T d ts ag ao X);have bz:=Z (bZ d);have b2:=Z (b0 d);have bn:=Z (fun ag ts s (ao:BS ag rb T (.ok ts d))=>Ey rb T (.ok ts d) s ag ao);have bo:=Z (fun ag ts (ao:BS ag rb T (.ok ts d))=>C9 rb T (.ok ts d) ag ao);have bp:=Z (fun ps n cm ag (ao:w.heap.size≤ag.heap.size) aA a5 hk cn co X=>Fg (low w) ps n cm (.slice none 0 0) (.slice none 0 0) (.slice none 0 0) (.slice none 0 0) ag (fun k hk=>DP hk ao) aA a5 hk cn co X);unfold Qb Ix at bn;unfold Qu B3 at bo;simp only[]at bn bo;have b3:=Z h.Aj;have cA:=Z h.lb;have b4:=Z a5;have bA:=Z (bx.out w ts h a5);show Calls Tryz.prog 70 #[.pointer (some ⟨rb,0,none⟩)] w (F0 (Fe w) Sf rb T d w (Fz (G d) ts []));obtain⟨R,ap⟩: ∃R,Fz (G d) ts []=R:=⟨_,rfl⟩;rw[ap];obtain⟨b5,bq⟩: ∃P,G d ts []=P:=⟨_,rfl⟩;rw[bq]at bA;have b6:=Z (show b5.bind (fun x b7 ns=>CR (G d) (b7.length+1) x b7 ns)=R by rw[←ap,←bq];rfl);have cp:=Z bq;clear ap bq h a5 b1 bZ b0;go_enter Tryz.func70,Tryz.ntmps70;go_wp2_with fail;refine bA.out.mono ?_;intro e bB a6;have aB: ∃(v:Value) (an:DS),e=.returned v∧BS bB rb T an∧w.grownBy bB (some rb)∧((∃f z ms,an=.ok z d∧CR (G d) f ((ms.length:Int)-1) z ms=R∧z.length<f∧z.length≤ts.length∧Fe w bB ms v∧ms≠[]∧ms.length+10*z.length≤5000)∨(∃a k,an=.er a k∧R=.bad a k∧ ∃x y a7,v=.slice x y a7)):=by
  cases aA:b5 with
  |ok x z ms=>
   rw[aA]at a6;obtain⟨v,J,ai,a8,a9⟩:=a6;have X:=bz.out _ _ _ _ _ b3.out.1 (cp.out.trans aA);obtain⟨aC,aD,aY,aZ⟩:=X.ne;have cD:=X.len;have cE:=b3.out.2.2.2.1;refine⟨v,.ok z d,J,a8,a9,.inl ⟨z.length+1,z,ms,rfl,?_,by omega,by omega,ai,aC,by omega⟩⟩;rw[←b6.out,aA,←aD];rfl
  |bad a k=>
   rw[aA]at a6;obtain⟨v,J,ai,a8,a9⟩:=a6;exact⟨v,.er a k,J,a8,a9,.inr ⟨a,k,rfl,by rw[←b6.out,aA];rfl,none,0,0,ai⟩⟩
 clear a6;obtain⟨v,an,rfl,b8,b9,a'⟩:=aB;have cq:=Z b8;have cr:=Z b9;have cs:=Z a';obtain⟨cF,cG,cH,rfl⟩: ∃a n c,v=.slice a n c:=by
  rcases a' with⟨f,z,ms,_,_,_,_,h,_⟩|⟨a,k,_,_,h⟩
  ·obtain⟨a,c,e⟩:=h.form;exact⟨_,_,_,e⟩
  ·exact h
 clear b8 b9 a' bA;go_wp2_with fail;go_loopg [3,4,5,6,7] (ts.length+1) (fun g b' cI cJ cK cL wr=> ∃an:DS,BS wr rb T an∧w.grownBy wr (some rb)∧((∃f z ms,an=.ok z d∧CR (G d) f ((ms.length:Int)-1) z ms=R∧z.length<f∧z.length<g∧z.length≤ts.length∧Fe w wr ms b'∧ms≠[]∧ms.length+10*z.length≤5000)∨(∃a k,an=.er a k∧R=.bad a k∧(∃x y a7,b'=.slice x y a7)∧0≤g)));case atStart=>
  refine⟨an,cq.out,cr.out,?_⟩;rcases cs.out with⟨f,z,ms,e,J,ai,a8,a9,aq,ab⟩|⟨a,k,e,J,ai⟩
  ·exact .inl ⟨f,z,ms,e,J,ai,by omega,a8,a9,aq,ab⟩
  ·exact .inr ⟨a,k,e,J,ai,DM _⟩
 case round=>
  obtain⟨an,aB,bC,a'⟩:=hrel;have ca:=Z bC;have cb:=Z aB;rcases a' with⟨f,z,ms,rfl,ap,cc,a0,cd,bD,ce,cf⟩|⟨a,k,rfl,ap,⟨x,y,a7,rfl⟩,_⟩
  ·have ba:=Z ap;have ct:=Z bD;have cg:=Z ce;have aa:=Z (A8 cc (A8 a0 (A8 cd cf)));have bE:=aB.Aj;have aE:=Z bE.1;have ch:=Z bE.2.1;obtain⟨cM,c3,rfl⟩:=bD.form;obtain⟨f,rfl⟩: ∃cu,f=cu+1:=⟨f-1,by omega⟩;have bF:=Z (bn.out wr z Jq aB);obtain⟨ci,bG⟩: ∃b,Dn z Jq=b:=⟨_,rfl⟩;rw[bG]at bF;have bb:=Z (show BR z Jq=ci from(ch.out.Qd IS.1).trans bG);obtain⟨br,bH⟩: ∃b,Dn z Qc=b:=⟨_,rfl⟩;have cj:=Z (fun ag ao=>by have:=bn.out ag z Qc ao;rw[bH]at this;exact this);have bs:=Z (show BR z Qc=br from(ch.out.Qd IS.2.1).trans bH);unfold Jq sv at bF;unfold Qc sv at cj;obtain⟨bt,a,bI,h,ar,au⟩:=aB;obtain⟨a1,a2,a3,bc,c4⟩:=h.cells;have lb:=h.lb;clear h ar au bG bH bE ap cc a0 cd bD ce cf bC;go_wp2_with fail;refine bF.out.mono ?_;rintro e cv ⟨rfl,bu⟩;have ck:=Z (cb.out.grown bu);have cw:=Z (ct.out.grown bu);have cx:=Z (AJ ca.out (Bp bu));clear bu a1 a2 a3 bc c4 lb;go_wp2_with fail;refine(cj.out cv ck.out).mono ?_;rintro e bv ⟨rfl,bw⟩;have a4:=Z (ck.out.grown bw);have bJ:=Z (cw.out.grown bw);have bK:=Z (AJ cx.out (Bp bw));clear bw;cases ci with
   |true=>
    have cy:br=false:=by
      obtain⟨t,r,ah⟩:=aE.out.ne;have J:=(Fx (ah▸bb.out)).2;cases br with
      |false=>rfl
      |true=>
        have ai:=(Fx (ah▸bs.out)).2;exact Ai (J.symm.trans ai) (by decide)
    subst cy;have bL:=aE.out;have aF:BR z Jq=true:=bb.out;obtain⟨aG,aH⟩:=A9 aE.out aF;obtain⟨t,r,ah⟩:=aE.out.ne;have bd:t.k≠4:=(Fx (ah▸aF)).1;have aI:z.tail=r:=(by rw[ah];rfl);rw[aI]at aG aH;obtain⟨bt,a,bI,h,ar,au⟩:=a4.out;obtain⟨a1,a2,a3,bc,c4⟩:=h.cells;have lb:=h.lb;have bM:=Y.frozen h.BD 1;have bN:(a:Int)≤500:=(by have:=h.lt;have:=h.tg.len;omega);have bO:=Z (BS.next h ar au ah bd);have ac:=Z (Ad aG);have aj:=Z aH;have bP:=Z (show R=((G d (AG r) ms).bind fun y aJ ak=>CR (G d) f ak.length aJ (ak++[{ kind:=4,kids:=[(ms.length:Int)-1,y] }])) by
      rw[←ba.out,CR,Ah bb.out,aI])
    clear h ar au bL aF aG aH ah bd aI;go_upto_region 10 with(fail);have aK:=AM (AB bv (some rb)) (p:=⟨rb,1,none⟩) (.inl rfl) (.int .i64 ((a:Int)+1));have be:=Z (bJ.out.rb aK a4.out.AN);have bf:=Z (AJ bK.out aK);have aL:=Z bO.out;generalize bv.setCell ⟨rb,1,none⟩ (.int .i64 ((a:Int)+1))=bQ at be bf aL⊢;clear aK a1 a2 a3 bc c4 lb bM bN;have bR:=Z (bo.out bQ r aL.out);go_wp2_with fail;refine bR.out.mono ?_;rintro e bS ⟨rfl,aq,aM⟩;have bg:=Z (be.out.rb aM aL.out.AN);have aN:=Z (AJ bf.out aM);have bh:=Z (bx.out bS (AG r) aq (by have:=ac.out.2;have:=aj.out;have:=aa.out;have:=b4.out;omega));have bi:=Z aq.AN;clear aq aM;obtain⟨bj,aw⟩: ∃P,G d (AG r) []=P:=⟨_,rfl⟩;rw[aw]at bh;have bT:=Z aw;have bk:=Z (show R=((bj.mv ms (EW ms.length)).bind fun y aJ ak=>CR (G d) f ak.length aJ (ak++[{ kind:=4,kids:=[(ms.length:Int)-1,y] }])) by rw[bP.out,Ik b2.out,aw]);clear aw;go_wp2_with fail;refine bh.out.mono ?_;cases bj with
    |bad aO aP=>
      rintro e ax ⟨v,rfl,rfl,ab,L⟩;have aQ:=Z ab;have K:=Z (bg.out.rb L bi.out);have ad:=Z (AJ aN.out L);clear ab L;have M:=Z (bp.out [ms,[]] { kind:=4 } _ _ (by rw[World.size_alloc];have:=ad.out.size;omega) (ML K.out.1 (Cm.nil _ ax)) (Dm 4) rfl (by intro q F;rcases List.mem_cons.1 F with rfl|F;exact K.out.2.1;rw[List.mem_singleton]at F;subst F;intro x hx;cases hx) (by show _+(_+0)≤_;have:=K.out.2.2;simp only[List.length_nil];omega) (by show 2≤1000;omega));exact Z0k
    |ok y am I=>
      rintro e ax ⟨v,rfl,aU,ab,L⟩;obtain⟨bU,bV,rfl⟩:=aU.form;have X:=bz.out _ _ _ _ _ ac.out.1 bT.out;obtain⟨aC,aD,aY,aZ⟩:=X.ne;have ae:=Z (A8 aC (A8 aD (A8 aY (A8 aZ X.len))));have aQ:=Z ab;have K:=Z (bg.out.rb L bi.out);have aV:=Z (aU.low aN.out.size);have ad:=Z (AJ aN.out L);have aW:=Z (show ms.length+I.length+1+10*am.length≤5000 by have:=ac.out.2;have:=aj.out;have:=aa.out;omega);clear ab L X aC aD aY aZ aU;have M:=Z (bp.out [ms,I] { kind:=4 } _ _ (by rw[World.size_alloc];have:=ad.out.size;omega) (ML K.out.1 aV.out.1) (Dm 4) rfl (by intro q F;rcases List.mem_cons.1 F with rfl|F;exact K.out.2.1;rw[List.mem_singleton]at F;subst F;exact aV.out.2.1) (by show _+(_+0)≤_;have:=aW.out;omega) (by show 2≤1000;omega));unfold FO AT sv at M;simp only[]at M;go_wp2_with fail;refine M.out.mono ?_;rintro e bl ⟨v,rfl,N,ay,al⟩;have O:=AI (AF (AB ax none) _) al;have aX:=DU (ps:=[ms,I]) (n:= { kind:=4 }) (by intro q F;rcases List.mem_cons.1 F with rfl|F;exact K.out.2.1;rw[List.mem_singleton]at F;subst F;exact aV.out.2.1) (by show 2≤1000;omega) rfl;have az:=Lp K.out.2.1 cg.out ae.out.1 4;have af:(Bc [ms,I] { kind:=4 }).length=ms.length+I.length+1:=(by rw[az,BE,FW,Cd]);obtain⟨W,bm⟩: ∃W,Bc [ms,I] { kind:=4 } =W:=⟨_,rfl⟩;rw[bm]at N aX az af;obtain⟨u1,u2,rfl,_⟩:=N.form;have bW:=Z (⟨N,aX,by have:=aW.out;omega,fun g a0=>by have J:=ay g a0;rw[World.size_alloc]at J;have:=ad.out.size;omega⟩:Fe w bl W _);have aR:=Z (aQ.out.grown O);have aS:=Z (AJ ad.out (Bp O));have bX:=Z af;have aT:=Z (show CR (G d) f ((W.length:Int)-1) am W=R by
        rw[bk.out];show _=CR (G d) f ((Ek ms I).length:Int) am (Ek ms I++[{ kind:=4,kids:=[(ms.length:Int)-1,EW ms.length y] }]);have hy:EW ms.length y=((ms.length+I.length:Nat):Int)-1:=by
          exact Z0l
        rw[hy,←az,af,FW];congr 1
        omega)
      exact Z0j
   |false=>
    cases br with
    |true=>
     have bL:=aE.out;have aF:BR z Qc=true:=bs.out;obtain⟨aG,aH⟩:=A9 aE.out aF;obtain⟨t,r,ah⟩:=aE.out.ne;have bd:t.k≠4:=(Fx (ah▸aF)).1;have aI:z.tail=r:=(by rw[ah];rfl);rw[aI]at aG aH;obtain⟨bt,a,bI,h,ar,au⟩:=a4.out;obtain⟨a1,a2,a3,bc,c4⟩:=h.cells;have lb:=h.lb;have bM:=Y.frozen h.BD 1;have bN:(a:Int)≤500:=(by have:=h.lt;have:=h.tg.len;omega);have bO:=Z (BS.next h ar au ah bd);have ac:=Z (Ad aG);have aj:=Z aH;have bP:=Z (show R=((G d (AG r) ms).bind fun y aJ ak=>CR (G d) f ak.length aJ (ak++[{ kind:=5,kids:=[(ms.length:Int)-1,y] }])) by
       rw[←ba.out,CR,U (by rw[bb.out];decide),Ah bs.out,aI])
     clear h ar au bL aF aG aH ah bd aI;go_upto_region 10 with(fail);have aK:=AM (AB bv (some rb)) (p:=⟨rb,1,none⟩) (.inl rfl) (.int .i64 ((a:Int)+1));have be:=Z (bJ.out.rb aK a4.out.AN);have bf:=Z (AJ bK.out aK);have aL:=Z bO.out;generalize bv.setCell ⟨rb,1,none⟩ (.int .i64 ((a:Int)+1))=bQ at be bf aL⊢;clear aK a1 a2 a3 bc c4 lb bM bN;have bR:=Z (bo.out bQ r aL.out);go_wp2_with fail;refine bR.out.mono ?_;rintro e bS ⟨rfl,aq,aM⟩;have bg:=Z (be.out.rb aM aL.out.AN);have aN:=Z (AJ bf.out aM);have bh:=Z (bx.out bS (AG r) aq (by have:=ac.out.2;have:=aj.out;have:=aa.out;have:=b4.out;omega));have bi:=Z aq.AN;clear aq aM;obtain⟨bj,aw⟩: ∃P,G d (AG r) []=P:=⟨_,rfl⟩;rw[aw]at bh;have bT:=Z aw;have bk:=Z (show R=((bj.mv ms (EW ms.length)).bind fun y aJ ak=>CR (G d) f ak.length aJ (ak++[{ kind:=5,kids:=[(ms.length:Int)-1,y] }])) by rw[bP.out,Ik b2.out,aw]);clear aw;go_wp2_with fail;refine bh.out.mono ?_;cases bj with
     |bad aO aP=>
       rintro e ax ⟨v,rfl,rfl,ab,L⟩;have aQ:=Z ab;have K:=Z (bg.out.rb L bi.out);have ad:=Z (AJ aN.out L);clear ab L;have M:=Z (bp.out [ms,[]] { kind:=5 } _ _ (by rw[World.size_alloc];have:=ad.out.size;omega) (ML K.out.1 (Cm.nil _ ax)) (Dm 5) rfl (by intro q F;rcases List.mem_cons.1 F with rfl|F;exact K.out.2.1;rw[List.mem_singleton]at F;subst F;intro x hx;cases hx) (by show _+(_+0)≤_;have:=K.out.2.2;simp only[List.length_nil];omega) (by show 2≤1000;omega));exact Z0k
     |ok y am I=>
       rintro e ax ⟨v,rfl,aU,ab,L⟩;obtain⟨bU,bV,rfl⟩:=aU.form;have X:=bz.out _ _ _ _ _ ac.out.1 bT.out;obtain⟨aC,aD,aY,aZ⟩:=X.ne;have ae:=Z (A8 aC (A8 aD (A8 aY (A8 aZ X.len))));have aQ:=Z ab;have K:=Z (bg.out.rb L bi.out);have aV:=Z (aU.low aN.out.size);have ad:=Z (AJ aN.out L);have aW:=Z (show ms.length+I.length+1+10*am.length≤5000 by have:=ac.out.2;have:=aj.out;have:=aa.out;omega);clear ab L X aC aD aY aZ aU;have M:=Z (bp.out [ms,I] { kind:=5 } _ _ (by rw[World.size_alloc];have:=ad.out.size;omega) (ML K.out.1 aV.out.1) (Dm 5) rfl (by intro q F;rcases List.mem_cons.1 F with rfl|F;exact K.out.2.1;rw[List.mem_singleton]at F;subst F;exact aV.out.2.1) (by show _+(_+0)≤_;have:=aW.out;omega) (by show 2≤1000;omega));unfold FO AT sv at M;simp only[]at M;go_wp2_with fail;refine M.out.mono ?_;rintro e bl ⟨v,rfl,N,ay,al⟩;have O:=AI (AF (AB ax none) _) al;have aX:=DU (ps:=[ms,I]) (n:= { kind:=5 }) (by intro q F;rcases List.mem_cons.1 F with rfl|F;exact K.out.2.1;rw[List.mem_singleton]at F;subst F;exact aV.out.2.1) (by show 2≤1000;omega) rfl;have az:=Lp K.out.2.1 cg.out ae.out.1 5;have af:(Bc [ms,I] { kind:=5 }).length=ms.length+I.length+1:=(by rw[az,BE,FW,Cd]);obtain⟨W,bm⟩: ∃W,Bc [ms,I] { kind:=5 } =W:=⟨_,rfl⟩;rw[bm]at N aX az af;obtain⟨u1,u2,rfl,_⟩:=N.form;have bW:=Z (⟨N,aX,by have:=aW.out;omega,fun g a0=>by have J:=ay g a0;rw[World.size_alloc]at J;have:=ad.out.size;omega⟩:Fe w bl W _);have aR:=Z (aQ.out.grown O);have aS:=Z (AJ ad.out (Bp O));have bX:=Z af;have aT:=Z (show CR (G d) f ((W.length:Int)-1) am W=R by
         rw[bk.out];show _=CR (G d) f ((Ek ms I).length:Int) am (Ek ms I++[{ kind:=5,kids:=[(ms.length:Int)-1,EW ms.length y] }]);have hy:EW ms.length y=((ms.length+I.length:Nat):Int)-1:=by
           exact Z0l
         rw[hy,←az,af,FW];congr 1
         omega)
       exact Z0j
    |false=>
     have cz:=Z (show R=.ok ((ms.length:Int)-1) z ms by rw[←ba.out,CR,U (by rw[bb.out];decide),U (by rw[bs.out];decide)]);obtain⟨bt,a,bI,h,ar,au⟩:=a4.out;clear h ar au;go_wp2_with fail;rw[cz.out];go_ret;exact⟨_,rfl,bJ.out,a4.out,bK.out⟩
  ·have ba:=Z ap;obtain⟨bt,i,cN,h,cl⟩:=aB;obtain⟨a1,a2,a3,c3,c4⟩:=h.cells;have lb:=h.lb;have cO:(k==0)=false:=Ba cl;clear h cl ap bC;go_wp2_with fail;rw[ba.out];go_ret;exact⟨_,rfl,⟨x,y,a7,rfl⟩,cb.out,ca.out⟩
end
section
open Go.RowKit Lx
theorem F3:(Tryz.prog.info? 22).map (fun i=>(i.zero,i.size,i.bytes))=some (some (.slice none 0 0),1,24):=by kernel_rfl
theorem Jl (W:World) (b:Nat) (a:Option Addr) (m c:Nat) (z:W.heap.size=b):Src Tryz.prog 1 110 (.slice (some ⟨b,0,none⟩) 1 1) 1 [.slice a m c] (W.alloc (.cells #[.slice a m c] 22)):=by
 subst z;exact Own.src (P:=Tryz.prog) (tx:=110) (e':=22) (n:=1) (xs:=[.slice a m c]) (k:=0) (e:=22) ⟨rfl,.inr ⟨W.heap.size,0,1,_,(0,0),rfl,Y.new W 22 _,BL _,BL _,by unfold maxLen;omega,by show 0+1*1≤1;omega,fun j G=>(by(have F:j=0:=by omega);subst F;rfl)⟩⟩ (by kernel_rfl) (by intro u h;simp at h;subst h;rfl)
theorem Cm.TC {av:Nat→Prop} {w w':World} {v:Value} {ns:List V} {S:Nat→Prop} (I:Cm av w v ns) (J:Az S w w') (K: ∀k,S k→Bk w k 22):Cm av w' v ns:=by
 obtain⟨L,M,N⟩:=I;have z: ∀ {e:TypeId} {s n k:Nat} {v:Value} {xs:List Value},Own w e s v n xs k→e≠22→Own w' e s v n xs k:=fun G O=>G.Bl J fun g X e=>O ((G.AN X).uniq (K g e))
 refine⟨L,z M (by decide),fun i F=>?_⟩;obtain⟨a,b,r,p,k,e,h⟩:=N i F;obtain⟨ps,aa,ab,ac⟩:=h.AS;exact⟨a,b,r,p,k,e,z h.AY (by decide),z h.words (by decide),z h.DB (by decide),⟨ps,z aa (by decide),ab,fun i F=>by obtain⟨u,ad,hs,ae⟩:=ac i F;exact⟨u,ad,z hs (by decide),ae⟩⟩,z h.kids (by decide),h.ha,h.hb,h.hr,h.hk⟩
def DE (w0 w:World) (v:Value) (ps:List (List V)):Prop:= ∃h,Own w 22 1 v ps.length h 0∧ ∀i (z:i<ps.length),∃u,h[i]? =some u∧Cm (low w0) w u ps[i]∧ ∀g,u.ownBlock=some g→w0.heap.size≤g
theorem DE.S {w0 w:World} {v:Value} {ps:List (List V)} (h:DE w0 w v ps):GA (low w0) w v ps:=by
 obtain⟨z,F,G⟩:=h;exact⟨z,F,fun i I=>by obtain⟨u,e,J,_⟩:=G i I;exact⟨u,e,J⟩⟩
theorem DE.Mb {w0 w w':World} {rb:Nat} {v:Value} {ps:List (List V)} (F:DE w0 w v ps) (h:w.grownBy w' (some rb)) (z:Bk w rb 86):DE w0 w' v ps:=by
 obtain⟨G,I,J⟩:=F;exact⟨G,Da h z I (by decide),fun i K=>by obtain⟨u,L,M,N⟩:=J i K;exact⟨u,L,M.Mb h z,N⟩⟩
theorem DE.grown {w0 w w':World} {v:Value} {ps:List (List V)} (z:DE w0 w v ps) (h:w.grownBy w' none):DE w0 w' v ps:=by
 obtain⟨F,G,I⟩:=z;exact⟨F,Bh h G,fun i J=>by obtain⟨u,K,L,M⟩:=I i J;exact⟨u,K,L.grown h,M⟩⟩
theorem DE.at_ {w0 w:World} {v:Value} {ps:List (List V)} (G:DE w0 w v ps) (i:Nat) (I:i<ps.length): ∃g h z a c,v=.slice (some ⟨g,h,none⟩) ps.length z∧g<w.heap.size∧w.cell? ⟨g,h+i,none⟩=some (.slice a ps[i].length c)∧Cm (low w0) w (.slice a ps[i].length c) ps[i]∧ ∀g,(Value.slice a ps[i].length c).ownBlock=some g→w0.heap.size≤g:=by
 obtain⟨X,J,K⟩:=G;obtain⟨g,h,z,rfl,_,_,L,M⟩:=J.some_ (by omega);obtain⟨u,N,F,O⟩:=K i I;obtain⟨a,c,rfl,_⟩:=F.form;refine⟨g,h,z,a,c,rfl,L,?_,F,O⟩;have:=M i (by omega);rw[this,N]
theorem Jt {w0 w:World} {v:Value} {ms:List V} (z:Cm (low w0) w v ms) (F: ∀g,v.ownBlock=some g→w0.heap.size≤g):DE w0 (w.alloc (.cells #[v] 22)) (.slice (some ⟨w.heap.size,0,none⟩) 1 1) [ms]:=by
 refine⟨[v],⟨rfl,.inr ⟨w.heap.size,0,1,_,(0,0),rfl,Y.new w 22 _,BL _,BL _,by unfold maxLen;omega,by show 0+1*1≤1;omega,fun j G=>(by(have J:j<1:=G);(have h:j=0:=by omega);subst h;rfl)⟩⟩,fun i I=>?_⟩;have h:i=0:=(by simpa using I);subst h;exact⟨v,rfl,z.grown (AF (AB w none) _),F⟩
theorem L8 {w0 w:World} {v u:Value} {ms h:List V} (z:Cm (low w0) w v ms) (F:Cm (low w0) w u h) (G: ∀g,v.ownBlock=some g→w0.heap.size≤g) (I: ∀g,u.ownBlock=some g→w0.heap.size≤g):DE w0 (w.alloc (.cells #[v,u] 22)) (.slice (some ⟨w.heap.size,0,none⟩) 2 2) [ms,h]:=by
 refine⟨[v,u],⟨rfl,.inr ⟨w.heap.size,0,2,_,(0,0),rfl,Y.new w 22 _,BL _,BL _,by unfold maxLen;omega,by show 0+2*1≤2;omega,fun j J=>?_⟩⟩,fun i K=>?_⟩
 ·have L:j<2:=J;match j,L with
  |0,_=>rfl
  |1,_=>rfl
 ·have M:i<2:=K;match i,M with
  |0,_=>exact⟨v,rfl,z.grown (AF (AB w none) _),G⟩
  |1,_=>exact⟨u,rfl,F.grown (AF (AB w none) _),I⟩
structure Jr (w W:World) (rb:Nat) (T:List AX) (st:DS) (v:Value) (ps:List (List V)):Prop where
 st:BS W rb T st
 parts:DE w W v ps
 new: ∀g,v.ownBlock=some g→w.heap.size≤g
 kb: ∀ms∈ps,KB ms
 gr:w.grownBy W (some rb)
 Ex:rb<w.heap.size
section
variable {w W W' wA:World} {rb:Nat} {T:List AX} {st st':DS} {v vA:Value} {ps:List (List V)}
theorem Jr.step (h:Jr w W rb T st v ps) (z:W.grownBy W' (some rb)) (F:BS W' rb T st'):Jr w W' rb T st' v ps:=⟨F,h.parts.Mb z h.st.AN,h.new,h.kb,AJ h.gr z,h.Ex⟩
theorem Jr.grown (h:Jr w W rb T st v ps) (z:W.grownBy W' none):Jr w W' rb T st v ps:=h.step (Bp z) (h.st.grown z)
theorem Jr.form (h:Jr w W rb T st v ps): ∃a c,v=.slice a ps.length c:=by
 obtain⟨F,z,_⟩:=h.parts;obtain⟨a,c,e,_⟩:=z.form;exact⟨a,c,e⟩
theorem Jr.nil (z:BS W rb T st) (h:w.grownBy W (some rb)) (F:rb<w.heap.size):Jr w W rb T st (.slice none 0 0) []:=⟨z,⟨[],Own.nil _ _ _ _,fun i G=>Ai G (by simp)⟩,fun g h=>(by cases h),fun ms I=>(by cases I),h,F⟩
theorem Jr.first (F:BS W rb T st) (h:w.grownBy W (some rb)) (G:rb<w.heap.size) {u:Value} {ms:List V} (I:Cm (low w) W u ms) (hk:KB ms) (J: ∀g,u.ownBlock=some g→w.heap.size≤g):Jr w (W.alloc (.cells #[u] 22)) rb T st (.slice (some ⟨W.heap.size,0,none⟩) 1 1) [ms]:=
 ⟨F.grown (AF (AB W none) _),Jt I J,fun g K=>by simp[Value.ownBlock]at K;have:=h.size;omega,fun m z=>by rw[List.mem_singleton]at z;subst z;exact hk,AF h _,G⟩
theorem Jr.app (h:Jr w W rb T st v ps) {z:List Value} (J:Own W 22 1 v ps.length z 0) (M: ∀i (h:i<ps.length),∃u,z[i]? =some u∧Cm (low w) W u ps[i]∧ ∀g,u.ownBlock=some g→w.heap.size≤g) (o:Obj) {u:Value} {ms:List V} (N:Cm (low w) W u ms) (hk:KB ms) (O: ∀g,u.ownBlock=some g→w.heap.size≤g)
  (X:Own wA 22 1 vA (ps.length+1) (z++[u]) 0) (F:Az (fun g=>v.ownBlock=some g) (W.alloc o) wA) (aa: ∀g,vA.ownBlock=some g→v.ownBlock=some g∨(W.alloc o).heap.size≤g):Jr w wA rb T st vA (ps++[ms]):=by
 have G:=AF (AB W none) o;have K: ∀k,v.ownBlock=some k→Bk (W.alloc o) k 22:=fun k e=>Own.AN (Bh G J) e
 refine⟨(h.st.grown G).Bl F (fun k e=>by have:=h.new k e;have:=h.Ex;omega),⟨z++[u],by rw[BE,Cd];exact X,fun i ab=>?_⟩,fun g ac=>?_,fun m I=>?_,Fq h.gr o F h.new,h.Ex⟩
 ·rw[BE,Cd]at ab;have ah:=J.len;by_cases L:i<ps.length
  ·obtain⟨ad,ae,af,ag⟩:=M i L;refine⟨ad,by rw[List.getElem?_append_left (by omega)];exact ae,?_⟩;rw[List.getElem_append_left L];exact⟨(af.grown G).TC F K,ag⟩
  ·obtain rfl:i=ps.length:=by omega
   refine⟨u,by rw[List.getElem?_append_right (by omega),show ps.length-z.length=0 by omega];rfl,?_⟩;rw[List.getElem_append_right (BL _)];simp only[Nat.sub_self,List.getElem_cons_zero];exact⟨(N.grown G).TC F K,O⟩
 ·rcases aa g ac with e|e
  ·exact h.new g e
  ·rw[World.size_alloc]at e;have:=h.gr.size;omega
 ·rw[List.mem_append,List.mem_singleton]at I;rcases I with I|rfl
  ·exact h.kb m I
  ·exact hk
end
def Ia (h:Bool) (kids:List Int) (z:List AX) (ns:List V):PR Int:=if 1<kids.length then FL h ns.length z (ns++[{ kind:=3,kids:=kids }])else FL h (kids.headD 0) z ns
def D3 (ps:List (List V)):List V:=if 1<ps.length then Bc ps { kind:=3 } else ps.headD []
theorem RY {F:Bool} {ps:List (List V)} {z:List AX} (hk: ∀ms∈ps,KB ms) (G: ∀ms∈ps,ms≠[]) (I:ps≠[]):Ia F (AP ps).2 z (AP ps).1=if F=true then .ok (D3 ps).length z (D3 ps++[{ kind:=2,kids:=[((D3 ps).length:Int)-1] }])else .ok (((D3 ps).length:Int)-1) z (D3 ps):=by
 unfold Ia D3;rw[IK];by_cases h:1<ps.length
 ·rw[Ah h,Ah h];have J:Bc ps { kind:=3 } =(AP ps).1++[{ kind:=3,kids:=(AP ps).2 }]:=rfl;rw[J];have K:(((AP ps).1++[({ kind:=3,kids:=(AP ps).2 } :V)]).length:Int)-1=((AP ps).1.length:Int):=(by rw[BE,Cd];omega);rw[K];unfold FL An;rfl
 ·rw[U h,U h];match ps,I with
  |[ms],_=>
   have L:=hk ms (List.mem_singleton.2 rfl);rw[Fc L (G ms (List.mem_singleton.2 rfl))];unfold FL An;rfl
  |a::b::c,_=>exact Ai (by simp) h
theorem Cb (ps:List (List V)) (n:V):(Bc ps n).length=BO ps+1:=by simp[Bc,JQ]
theorem EM (ps:List (List V)) (ms:List V):BO (ps++[ms])=BO ps+ms.length:=by simp[BO]
theorem DG {ps:List (List V)} {ms:List V} (h:ms≠[]):AP (ps++[ms])=(Ek (AP ps).1 ms,(AP ps).2++[(((AP ps).1.length+ms.length:Nat):Int)-1]):=by rw[Fo];unfold CJ;rw[U h]
theorem SY:DQ∉Dr:=by decide
theorem RM (n:Nat) (F:EO) (bR: ∀d,Ju 5 (F d)) (bS: ∀d,K0 (F d)) (bT:Qw Sf 101 F n):Qw LJ 89 (fun d=>FB (F d)) n:=by
 intro rb T d ts w h aS;have bU:=Z (fun W ts M K=>bT rb T d ts W M K);have bV:=Z (bR d);have cH:=Z (bS d);have a7:=Z (fun W ts s (M:BS W rb T (.ok ts d))=>Ey rb T (.ok ts d) s W M);have a8:=Z (fun W ts s (M:BS W rb T (.ok ts d))=>GL rb T (.ok ts d) s W M);have a9:=Z (fun W ts (M:BS W rb T (.ok ts d))=>C9 rb T (.ok ts d) W M);have bW:=Z (fun ps n cI W (M:w.heap.size≤W.heap.size) ae aS hk cJ cK K=>Fg (low w) ps n cI (.slice none 0 0) (.slice none 0 0) (.slice none 0 0) (.slice none 0 0) W (fun k hk=>DP hk M) ae aS hk cJ cK K);unfold Qb Ix at a7;unfold Qb Kz at a8;unfold Qu B3 at a9;simp only[]at a7 a9 a8;have a':=Z h.Aj;have bX:=Z h.lb;have bY:=Z aS;have ba:=Z h;show Calls Tryz.prog 89 #[.pointer (some ⟨rb,0,none⟩)] w (F0 (Fe w) LJ rb T d w (FB (F d) ts []));obtain⟨L,aT⟩: ∃b,BR ts DQ=b:=⟨_,rfl⟩;obtain⟨aC,aU⟩: ∃t,A3 ts DQ=t:=⟨_,rfl⟩;obtain⟨R,N⟩: ∃R,FB (F d) ts []=R:=⟨_,rfl⟩;rw[N];have bb:=Z aT;have bc:=IH (s:=DQ) h.Aj.1;rw[aU]at bc;have bd:=Z bc;obtain⟨bZ,be⟩: ∃P,F d aC []=P:=⟨_,rfl⟩;have b0:=Z be;have b1:=Z (show(bZ.bind fun x b2 ns=>(DD (F d) (b2.length+1) [x] b2 ns).bind (Ia L))=R by
  rw[←N,←be,←aU,←aT];rfl)
 have bf:=Z (a8.out w ts DQ h);rw[show Fl ts DQ=L from(h.Aj.2.1.WJ SY).symm.trans aT]at bf;unfold DQ sv at bf;have b3:=Z aU;clear N be bc aT aU h aS bT bR bS;go_enter Tryz.func89,Tryz.ntmps89;go_wp2_with fail;refine bf.out.mono ?_;rintro e de ⟨rfl,bg⟩;have b4:=Z (ba.out.grown bg);have b5:=Z (Bp (rb:=rb) bg);clear bg;go_upto_if 9 with(fail);go_cut [] (fun ap=>BS ap rb T (.ok aC d)∧w.grownBy ap (some rb));case first=>
  cases L with
  |false=>
   have bh:=Z (show ts=aC by rw[←b3.out];unfold A3;rw[bb.out];rfl);go_wp2_with fail;go_meet;exact⟨by rw[←bh.out];exact b4.out,b5.out⟩
  |true=>
   obtain⟨t,r,O⟩:=a'.out.1.ne;have b6:aC=r:=(by rw[←b3.out];unfold A3;rw[bb.out,O];rfl);obtain⟨aV,a,bi,h,X,aa⟩:=b4.out;obtain⟨af,ag,ah,c3,c4⟩:=h.cells;have lb:=h.lb;have b7:=Y.frozen h.BD 1;have b8:(a:Int)≤500:=(by have:=h.lt;have:=h.tg.len;omega);have bj:=Z (BS.next h X aa O (Fx (O▸bb.out)).1);have bh:=Z b6;clear h X aa O b6;go_wp2_with fail;go_meet;exact⟨by rw[bh.out];exact bj.out,AM b5.out (p:=⟨rb,1,none⟩) (.inl rfl) _⟩
 case rest=>
  obtain⟨J,aq⟩:=hcut;have df:=Z J;have b9:=Z aq;have bk:=Z (bU.out wc aC J (by have:=bd.out.2;have:=bY.out;omega));rw[b0.out]at bk;clear J aq;go_wp2_with fail;refine bk.out.mono ?_;intro e aW aD;have J: ∃(v:Value) (st:DS),e=.returned v∧BS aW rb T st∧wc.grownBy aW (some rb)∧(∃x y aX,v=.slice x y aX)∧((∃f z ms,st=.ok z d∧(DD (F d) f (AP [ms]).2 z (AP [ms]).1).bind (Ia L)=R∧z.length<f∧z.length≤ts.length∧Fe w aW ms v∧ms≠[]∧ms.length+10*z.length≤5000)∨(∃a k,st=.er a k∧R=.bad a k)):=by
   cases ae:bZ with
   |ok x z ms=>
    rw[ae]at aD;obtain⟨v,I,ac,aE,ai⟩:=aD;have K:=bV.out _ _ _ _ _ bd.out.1 (b0.out.trans ae);obtain⟨aF,aY,bl,bm⟩:=K.ne;have dg:=K.len;have dh:=a'.out.2.2.2.1;have di:=bd.out.2;obtain⟨a,c,cL⟩:=ac.form;refine⟨v,.ok z d,I,aE,ai,⟨_,_,_,cL⟩,.inl ⟨z.length+1,z,ms,rfl,?_,by omega,by omega,ac.low b9.out.size,aF,by omega⟩⟩;rw[←b1.out,ae,Fc ac.2.1 aF,←aY];rfl
   |bad a k=>
    rw[ae]at aD;obtain⟨v,I,ac,aE,ai⟩:=aD;exact⟨v,.er a k,I,aE,ai,ac,.inr ⟨a,k,rfl,by rw[←b1.out,ae];rfl⟩⟩
  clear aD;obtain⟨v,st,rfl,b',ca,⟨dj,dk,dl,rfl⟩,aZ⟩:=J;have cb:=Z b';have cc:=Z (AJ b9.out ca);have cM:=Z aZ;clear b' ca aZ bk;go_wp2_with fail;go_loopg [4,5] (ts.length+1) (fun g cd dm wr=> ∃st:DS,(∃x y aX,cd=.slice x y aX)∧BS wr rb T st∧w.grownBy wr (some rb)∧((∃f z ps,st=.ok z d∧(DD (F d) f (AP ps).2 z (AP ps).1).bind (Ia L)=R∧z.length<f∧z.length<g∧z.length≤ts.length∧Jr w wr rb T (.ok z d) cd ps∧ps≠[]∧(∀ms∈ps,ms≠[])∧BO ps+10*z.length≤5000∧ps.length+z.length≤600)∨(∃a k,st=.er a k∧R=.bad a k)));case atStart=>
   refine⟨st,⟨_,_,_,rfl⟩,cb.out.grown (AF (AB aW none) _),AF cc.out _,?_⟩;rcases cM.out with⟨f,z,ms,e,I,ac,aE,ai,aG,aj⟩|⟨a,k,e,I⟩
   ·refine .inl ⟨f,z,[ms],e,I,ac,by omega,aE,Jr.first (e▸cb.out) cc.out bX.out ai.1 ai.2.1 ai.2.2.2,by simp,?_,by simpa [BO]using aj,?_⟩
    ·intro m ak;rw[List.mem_singleton]at ak;subst ak;exact aG
    ·have:=a'.out.2.2.2.1;simp only[Cd];omega
   ·exact .inr ⟨a,k,e,I⟩
  case round=>
   obtain⟨st,⟨x,y,aX,ce⟩,J,aq,aZ⟩:=hrel;have cN:=Z aq;have ba:=Z J;rcases aZ with⟨f,z,ps,rfl,N,cf,ar,cg,bn,ch,ci,cj,ck⟩|⟨a,k,rfl,N⟩
   ·have a0:=Z N;have cO:=Z bn;have aH:=Z (A8 ch ci);have ab:=Z (A8 cf (A8 ar (A8 cg (A8 cj ck))));have cl:=Z J.Aj.1;have cP:=Z J.Aj.2.1;obtain⟨cm,c4,cQ⟩:=bn.form;subst cQ;clear ce;obtain⟨f,rfl⟩: ∃cR,f=cR+1:=⟨f-1,by omega⟩;obtain⟨cn,bo⟩: ∃b,Dn z Fm=b:=⟨_,rfl⟩;have bp:=Z (a7.out wr z Fm J);rw[bo]at bp;have a1:=Z (show BR z Fm=cn from(cP.out.Qd IS.2.2.2.2.2.1).trans bo);unfold Fm sv at bp;obtain⟨aV,a,bi,h,X,aa⟩:=J;obtain⟨af,ag,ah,c3,aI⟩:=h.cells;have lb:=h.lb;have dn:ps.length≤600:=(by omega);clear h X aa bo N cf ar cg bn ch ci cj ck aq;go_wp2_with fail;refine bp.out.mono ?_;rintro e co ⟨rfl,cp⟩;have G:=Z (cO.out.grown cp);clear cp af ag ah c3 aI lb;cases cn with
    |true=>
     obtain⟨bq,br⟩:=A9 cl.out a1.out;obtain⟨t,r,O⟩:=cl.out.ne;have cq:t.k≠4:=(Fx (O▸a1.out)).1;have bs:z.tail=r:=(by rw[O];rfl);rw[bs]at bq br;obtain⟨aV,a,bi,h,X,aa⟩:=G.out.st;obtain⟨af,ag,ah,c3,aI⟩:=h.cells;have lb:=h.lb;have b7:=Y.frozen h.BD 1;have b8:(a:Int)≤500:=(by have:=h.lt;have:=h.tg.len;omega);have bj:=Z (BS.next h X aa O cq);have au:=Z (Ad bq);have aJ:=Z br;have cS:=Z (show R=((F d (AG r) (AP ps).1).bind fun y bt bu=>DD (F d) f ((AP ps).2++[y]) bt bu).bind (Ia L) by
      rw[←a0.out,DD,Ah a1.out,bs])
     clear h X aa bq br O cq bs;go_upto_region 9 with(fail);have cr:=AM (AB co (some rb)) (p:=⟨rb,1,none⟩) (.inl rfl) (.int .i64 ((a:Int)+1));have bv:=Z (G.out.step cr bj.out);generalize co.setCell ⟨rb,1,none⟩ (.int .i64 ((a:Int)+1))=cT at bv⊢;clear cr af ag ah c3 aI lb b7 b8;have cU:=Z (a9.out cT r bv.out.st);go_wp2_with fail;refine cU.out.mono ?_;rintro e cV ⟨rfl,aG,cs⟩;have al:=Z (bv.out.step cs aG);have ct:=Z (bU.out cV (AG r) aG (by have:=au.out.2;have:=aJ.out;have:=ab.out;have:=bY.out;omega));clear aG cs;obtain⟨cu,a2⟩: ∃P,F d (AG r) []=P:=⟨_,rfl⟩;rw[a2]at ct;have cW:=Z a2;have cv:=Z (show R=((cu.mv (AP ps).1 (EW (AP ps).1.length)).bind fun y bt bu=>DD (F d) f ((AP ps).2++[y]) bt bu).bind (Ia L) by rw[cS.out,Ik cH.out,a2]);clear a2;go_wp2_with fail;refine ct.out.mono ?_;cases cu with
     |bad bw bx=>
      rintro e cX ⟨v,rfl,⟨aK,aL,cw,rfl⟩,aj,aw⟩;obtain⟨bz,am,a3⟩:=al.out.parts.Mb aw al.out.st.AN;have a4:=Z am;have a5:=Z aj;have ax:=Z (AJ al.out.gr aw);have bA:=Z (show R=.bad bw bx from cv.out);clear aj aw am a3;go_wp2_with (at_builtin;refine AU 22 (.slice none 0 0) 1 24 Tryz.underlying110 F3 rfl (.slice cm ps.length c4) ps.length bz 0 _ 1 [.slice aK aL cw] rfl rfl (Own.alloc a4.out _) (by omega) (Jl _ _ aK aL cw rfl) (by unfold maxLen;omega) (by omega) ?_;intro vA wA ay az a6 _;(have cY:=Z ((a5.out.grown (AF (AB _ none) _)).Bl az (fun k e=>by have:=al.out.new k e;have:=bX.out;omega)));(have cZ:=Z (Fq ax.out _ az al.out.new));(obtain⟨c0,c1,rfl,_,_⟩:=Own.form ay);clear ay az a6);go_roundg (gk-1);case rel=>exact⟨.er bw bx,⟨_,_,_,rfl⟩,cY.out,cZ.out,.inr ⟨bw,bx,rfl,bA.out⟩⟩
      case measure=>have:=ab.out;omega
     |ok cx aA ad=>
      rintro e cX ⟨v,rfl,bB,aj,aw⟩;obtain⟨aK,aL,rfl⟩:=bB.form;have K:=bV.out _ _ _ _ _ au.out.1 cW.out;obtain⟨aF,aY,bl,bm⟩:=K.ne;have an:=Z (A8 aF (A8 aY (A8 bl (A8 bm K.len))));have cy:=Z (al.out.step aw aj);have bC:=Z (bB.low al.out.gr.size);have cz:=Z (show BO ps+ad.length+10*aA.length≤5000∧ps.length+1+aA.length≤600 by have:=au.out.2;have:=aJ.out;have:=ab.out;have:=K.len;omega);clear aj aw K aF aY bl bm bB;obtain⟨bz,am,a3⟩:=cy.out.parts;have a4:=Z am;have c2:=Z a3;clear am a3;have bA:=Z (show(DD (F d) f (AP (ps++[ad])).2 aA (AP (ps++[ad])).1).bind (Ia L)=R by
       rw[cv.out,DG an.out.1];show _=(DD (F d) f ((AP ps).2++[EW (AP ps).1.length cx]) aA (Ek (AP ps).1 ad)).bind (Ia L);have hy:EW (AP ps).1.length cx=(((AP ps).1.length+ad.length:Nat):Int)-1:=by
        have I:=an.out.2.1;have ac:=an.out.2.2.1;rw[IN _ _ (by omega),I];omega
       rw[hy])
      go_wp2_with (at_builtin;refine AU 22 (.slice none 0 0) 1 24 Tryz.underlying110 F3 rfl (.slice cm ps.length c4) ps.length bz 0 _ 1 [.slice aK ad.length aL] rfl rfl (Own.alloc a4.out _) (by omega) (Jl _ _ aK ad.length aL rfl) (by unfold maxLen;omega) (by omega) ?_;intro vA wA ay az a6 _;(have bD:=Z (Jr.app cy.out a4.out c2.out _ bC.out.1 bC.out.2.1 bC.out.2.2.2 ay az a6));(obtain⟨c0,c1,rfl,_,_⟩:=Own.form ay);clear ay az a6);go_roundg (gk-1);case rel=>exact⟨.ok aA d,⟨_,_,_,rfl⟩,bD.out.st,bD.out.gr,.inl ⟨f,aA,ps++[ad],rfl,bA.out,by have:=an.out.2.2.2.2;have:=au.out.2;have:=aJ.out;have:=ab.out;omega,by have:=an.out.2.2.2.2;have:=au.out.2;have:=aJ.out;have:=ab.out;omega,by have:=an.out.2.2.2.2;have:=au.out.2;have:=aJ.out;have:=ab.out;omega,bD.out,by simp,by intro m ak;rw[List.mem_append,List.mem_singleton]at ak;rcases ak with ak|rfl;exact aH.out.2 m ak;exact an.out.1,by rw[EM];exact cz.out.1,by rw[BE,Cd];exact cz.out.2⟩⟩
      case measure=>have:=ab.out;omega
    |false=>
     have bE:R=Ia L (AP ps).2 z (AP ps).1:=(by rw[←a0.out,DD,U (by rw[a1.out];decide)];rfl);rw[RY G.out.kb aH.out.2 aH.out.1]at bE;have cA:=Z bE;obtain⟨aV,a,bi,h,X,aa⟩:=G.out.st;obtain⟨af,ag,ah,c3,aI⟩:=h.cells;have lb:=h.lb;have aM:0<ps.length:=List.length_pos_iff.2 aH.out.1;obtain⟨dp,dq,dr,ds,dt,bF,c5,u0,cB⟩:=G.out.parts.at_ 0 aM;injection bF with bF _ c6;subst bF c6;rw[Nat.add_zero]at u0;have c7:(0:Int)<(ps.length:Int):=(by omega);have bG:=Z cB;have aN:=Z (show ps.headD []=ps[0] by cases ps with|nil=>simp at aM|cons p ps=>rfl);have cC:=Z (G.out.kb _ (List.getElem_mem aM));obtain⟨cD,bH⟩: ∃m,ps[0]=m:=⟨_,rfl⟩;rw[bH]at u0 bG aN cC;have aB:=Z (show(D3 ps).length≤5001∧KB (D3 ps) by
      have I:=ab.out.2.2.2.1;unfold D3;split
      ·exact⟨by rw[Cb];omega,DU G.out.kb (by omega) rfl⟩
      ·rw[aN.out];refine⟨?_,cC.out⟩;have:=JS ps 0 aM;rw[bH]at this;omega)
     clear h X aa bE cB bH;go_upto_if 53 with(fail);go_cut [6] (fun c8 ap=>Fe w ap (D3 ps) c8∧BS ap rb T (.ok z d)∧w.grownBy ap (some rb));case first=>
      by_cases I:1<ps.length
      ·have am:decide ((1:Int)<(ps.length:Int))=true:=At (by omega);have bI:=Z (bW.out ps { kind:=3 } _ _ G.out.gr.size G.out.parts.S (Dm 3) rfl G.out.kb (by have:=ab.out.2.2.2.1;omega) (by omega));unfold FO AT sv at bI;simp only[]at bI;have bJ:=Z (show D3 ps=Bc ps { kind:=3 } from Ah I);go_wp2_with fail;refine bI.out.mono ?_;rintro e c9 ⟨v,rfl,ao,aO,aP⟩;obtain⟨u1,u2,rfl,_⟩:=ao.form;have bK:=Z ao;have bL:=Z (fun g ar=>Ef G.out.gr.size (aO g ar));have cE:=Z (G.out.grown aP);clear ao aO aP;go_wp2_with fail;go_meet;exact⟨⟨by rw[bJ.out];exact bK.out,aB.out.2,by have:=aB.out.1;omega,bL.out⟩,cE.out.st,cE.out.gr⟩
      ·have am:decide ((1:Int)<(ps.length:Int))=false:=Aq (by omega);have bJ:=Z (show D3 ps=cD by unfold D3;rw[U I,aN.out]);go_wp2_with fail;go_meet;exact⟨⟨by rw[bJ.out];exact bG.out.1,aB.out.2,by have:=aB.out.1;omega,bG.out.2⟩,G.out.st,G.out.gr⟩
     case rest=>
      obtain⟨bM,cF,cG⟩:=hcut;obtain⟨u1,u2,rfl⟩:=bM.form;have aQ:=Z bM;have a5:=Z cF;have ax:=Z cG;clear bM cF cG af ag ah c3 aI lb u0 c5 c7;have c':=Z (show D3 ps≠[] by
       unfold D3;split
       ·intro e;have:=congrArg List.length e;rw[Cb]at this;simp at this
       ·rw[aN.out];exact aH.out.2 cD (by rw[←aN.out];cases ps with|nil=>simp at aM|cons p ps=>exact List.mem_cons_self ..))
      cases L with
      |false=>
       have bN:=Z (show R=.ok (((D3 ps).length:Int)-1) z (D3 ps)from cA.out);go_wp2_with fail;rw[bN.out];go_ret;exact⟨_,rfl,aQ.out,a5.out,ax.out⟩
      |true=>
       have bN:=Z (show R=.ok (D3 ps).length z (D3 ps++[{ kind:=2,kids:=[((D3 ps).length:Int)-1] }])from cA.out);have bO:=Z (bW.out [D3 ps] { kind:=2 } _ _ (by rw[World.size_alloc];have:=ax.out.size;omega) (MO aQ.out.1) (Dm 2) rfl (by intro q aR;rw[List.mem_singleton]at aR;subst aR;exact aQ.out.2.1) (by show _+0≤_;have:=aB.out.1;omega) (by show 1≤1000;omega));have da:=Z (LX aQ.out.2.1 c'.out 2);have db:=Z (DU (ps:=[D3 ps]) (n:= { kind:=2 }) (by intro q aR;rw[List.mem_singleton]at aR;subst aR;exact aQ.out.2.1) (by show 1≤1000;omega) rfl);unfold FO AT sv at bO;simp only[]at bO;go_wp2_with fail;refine bO.out.mono ?_;rintro e c9 ⟨v,rfl,ao,aO,aP⟩;obtain⟨du,dv,rfl,_⟩:=ao.form;have bK:=Z ao;have bL:=Z (fun g ar=>Ef (Ef ax.out.size (by rw[World.size_alloc];omega)) (aO g ar));have bP:=AI (AF (AB _ none) _) aP;have dc:=Z (a5.out.grown bP);have dd:=Z (AJ ax.out (Bp bP));clear ao aO aP bP;go_wp2_with fail;rw[bN.out,←da.out];go_ret;exact⟨_,rfl,⟨bK.out,db.out,by rw[Cb];show _+0+1≤_;have:=aB.out.1;omega,bL.out⟩,dc.out,dd.out⟩
   ·have a0:=Z N;subst ce;obtain⟨aV,i,dw,h,bQ⟩:=J;obtain⟨af,ag,ah,c3,c4⟩:=h.cells;have lb:=h.lb;have dx:(k==0)=false:=Ba bQ;have dy:(k !=0)=true:=JG bQ;clear h bQ N aq;go_wp2_with fail;rw[a0.out];go_ret;exact⟨_,rfl,rfl,ba.out,cN.out⟩
end
end Go.Proofs.YtdhfhphbkfgamaaGreat
