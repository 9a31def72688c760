/- A part. -/
import Derived.Test.YtdhfhphbkfgamaaGreatEi
set_option maxRecDepth 100000
set_option linter.all false
set_option maxHeartbeats 0
namespace Go.Proofs.YtdhfhphbkfgamaaGreat
open Go.RowKit Lx Proofs.Tryz
def Sa(bad:World->Value->Prop)(fn:FuncId)(r:Eg)(n:Nat):Prop:=∀rb T d ts w,BU w rb T (.ok ts d)->ts.length<=n->Calls prog fn #[.pointer (some ⟨rb,0,none⟩)] w (GU (F2 w) bad rb T d w (r d ts []))
def Lm:World->Value->Prop:=fun _ v=>v=.slice none 0 0
def X7(w0:World):World->Value->Prop:=fun w v=> ∃ns,F2 w0 w ns v
theorem F2.rb{w0 w w':World}{rb:Nat}{ns:List V}{v:Value}(h:F2 w0 w ns v)(z:w.grownBy w' (some rb))(F:Bn w rb 86):F2 w0 w' ns v:=⟨h.1.M6 z F,h.2⟩
theorem F2.low{w0 z w:World}{ns:List V}{v:Value}(h:F2 z w ns v)(hs:w0.heap.size<=z.heap.size):F2 w0 w ns v:=⟨h.1.mono (fun k hk=>DZ hk hs),h.2.1,h.2.2.1,fun g F=>E0 hs (h.2.2.2 g F)⟩
theorem F2.grown{w0 w w':World}{ns:List V}{v:Value}(h:F2 w0 w ns v)(z:w.grownBy w' none):F2 w0 w' ns v:=⟨h.1.grown z,h.2⟩
theorem F2.form{w0 w:World}{ns:List V}{v:Value}(h:F2 w0 w ns v):∃a c,v=.slice a ns.length c:=by
 obtain⟨a,c,e,_⟩:=h.1.form;exact⟨a,c,e⟩
theorem F2.nil(w0 w:World):F2 w0 w [] (.slice none 0 0):=⟨Ct.nil _ _,fun x hx=>(by cases hx),by simp,fun g h=>(by cases h)⟩
theorem Dt{av:Nat->Prop}{w:World}(kind:Int):Bk av w (.slice none 0 0) (.slice none 0 0) (.slice none 0 0) (.slice none 0 0) (.slice none 0 0) { kind:=kind } :=
 ⟨Own.nil _ _ _ _,Own.nil _ _ _ _,Own.nil _ _ _ _,⟨[],Own.nil _ _ _ _,fun b h=>(by cases h),fun i z=>Aj z (by simp)⟩,Own.nil _ _ _ _,fun k hk e=>(by cases hk),fun k hk e=>(by cases hk),fun k hk e=>(by cases hk),fun k hk e=>(by cases hk)⟩
theorem Mz{av:Nat->Prop}{w:World}{v:Value}{ms:List V}(z:Ct av w v ms):GZ av (w.alloc (.cells #[v] 22)) (.slice (some ⟨w.heap.size,0,none⟩) 1 1) [ms]:=by
 refine⟨[v],⟨rfl,.inr ⟨w.heap.size,0,1,_,(0,0),rfl,Y.new w 22 _,BN _,BN _,by unfold maxLen;omega,by show 0+1*1<=1;omega,fun j F=>(by(have I:j<1:=F);(have h:j=0:=by omega);subst h;rfl)⟩⟩,fun i G=>?_⟩;have h:i=0:=(by simpa using G);subst h;exact⟨v,rfl,z.grown (AF (AB w none) _)⟩
theorem Mv{av:Nat->Prop}{w:World}{v u:Value}{ms h:List V}(z:Ct av w v ms)(F:Ct av w u h):GZ av (w.alloc (.cells #[v,u] 22)) (.slice (some ⟨w.heap.size,0,none⟩) 2 2) [ms,h]:=by
 refine⟨[v,u],⟨rfl,.inr ⟨w.heap.size,0,2,_,(0,0),rfl,Y.new w 22 _,BN _,BN _,by unfold maxLen;omega,by show 0+2*1<=2;omega,fun j G=>?_⟩⟩,fun i I=>?_⟩
 ·have J:j<2:=G;match j,J with
  |0,_=>rfl
  |1,_=>rfl
 ·have K:i<2:=I;match i,K with
  |0,_=>exact⟨v,rfl,z.grown (AF (AB w none) _)⟩
  |1,_=>exact⟨u,rfl,F.grown (AF (AB w none) _)⟩
theorem UN(ms:List V)(h:KB ms):E3 [] ms=ms:=by
 show []++ms.map (V.sh 0)=ms;rw[h.zero];rfl
theorem Fy{ms:List V}(h:KB ms)(z:ms≠[]):AQ [ms]=(ms,[(ms.length:Int)-1]):=by
 show CH ([],[]) ms=_;unfold CH;rw[AP z];simp only[UN ms h,CU,Dc,List.nil_append]
theorem MC{ms:List V}(h:KB ms)(z:ms≠[])(kind:Int):Bf [ms] { kind:=kind } =ms++[{ kind:=kind,kids:=[(ms.length:Int)-1] }]:=by
 unfold Bf;rw[Fy h z];rfl
theorem ME{ms h:List V}(z:KB ms)(F:ms≠[])(G:h≠[])(kind:Int):Bf [ms,h] { kind:=kind } =E3 ms h++[{ kind:=kind,kids:=[(ms.length:Int)-1,((ms.length+h.length:Nat):Int)-1] }]:=by
 unfold Bf;have:AQ [ms,h]=CH (AQ [ms]) h:=GH [ms] h;rw[this,Fy z F];unfold CH;rw[AP G];rfl
theorem Left.ne{c:Nat}{ts G:List AY}{h:List V}{x:Int}(z:Left c ts [] x G h):h≠[]/\x=(h.length:Int)-1/\1<=h.length/\h.length+10*G.length+c<=10*ts.length:=by
 have F:=z.more;have I:=z.EG;simp only[CU]at F I;exact⟨fun e=>by rw[e]at F;simp at F,z.last,by omega,by omega⟩
theorem Io:KV∈D9/\RH∈D9/\C9∈D9/\Be∈D9/\GI∈D9/\F4∈D9/\Bz∈D9/\DX∈D9/\EV∈D9:=by decide
theorem Rh(n:Nat)(G:Eg)(bZ:∀d,Ki 3 (G d))(b0:∀d,Lk (G d))(b1:Sa Lm 89 G n):Sa TG 70 (fun d=>GV (G d)) n:=by
 intro rb T d ts w h a5;have bx:=Z (fun af ts ao W=>b1 rb T d ts af ao W);have bz:=Z (bZ d);have b2:=Z (b0 d);have bn:=Z (fun af ts s (ao:BU af rb T (.ok ts d))=>FE rb T (.ok ts d) s af ao);have bo:=Z (fun af ts (ao:BU af rb T (.ok ts d))=>DM rb T (.ok ts d) af ao);have bp:=Z (fun ps n cm af (ao:w.heap.size<=af.heap.size) aA a5 hk cn co W=>F3 (low w) ps n cm (.slice none 0 0) (.slice none 0 0) (.slice none 0 0) (.slice none 0 0) af (fun k hk=>DZ hk ao) aA a5 hk cn co W);unfold Qb Je at bn;unfold Qu B9 at bo;simp only[]at bn bo;have b3:=Z h.Ak;have cA:=Z h.lb;have b4:=Z a5;have bA:=Z (bx.out w ts h a5);show Calls prog 70 #[.pointer (some ⟨rb,0,none⟩)] w (GU (F2 w) TG rb T d w (GV (G d) ts []));obtain⟨R,ap⟩:=U (GV (G d) ts []);rw[ap];obtain⟨b5,bq⟩:=U (G d ts []);rw[bq]at bA;have b6:=Z (show b5.bind (fun x b7 ns=>CY (G d) (b7.length+1) x b7 ns)=R by rw[<-ap,<-bq];rfl);have cp:=Z bq;clear ap bq h a5 b1 bZ b0;go_enter func70,ntmps70;go_wp2_with fail;refine bA.out.mono ?_;intro e bB a6;have aB:∃(v:Value) (an:DS),e=.returned v/\BU bB rb T an/\w.grownBy bB (some rb)/\((∃f z ms,an=.ok z d/\CY (G d) f ((ms.length:Int)-1) z ms=R/\z.length<f/\z.length<=ts.length/\F2 w bB ms v/\ms≠[]/\ms.length+10*z.length<=5000)\/(∃a k,an=.er a k/\R=.bad a k/\ ∃x y a7,v=.slice x y a7)):=by
  cases aA:b5 with
  |ok x z ms=>
   rw[aA]at a6;obtain⟨v,J,ah,a8,a9⟩:=a6;have W:=bz.out _ _ _ _ _ b3.out.1 (cp.out.trans aA);obtain⟨aC,aD,aY,aZ⟩:=W.ne;have cD:=W.len;have cE:=b3.out.2.2.2.1;refine⟨v,.ok z d,J,a8,a9,.inl ⟨z.length+1,z,ms,rfl,?_,by omega,by omega,ah,aC,by omega⟩⟩;rw[<-b6.out,aA,<-aD];rfl
  |bad a k=>
   rw[aA]at a6;obtain⟨v,J,ah,a8,a9⟩:=a6;exact⟨v,.er a k,J,a8,a9,.inr ⟨a,k,rfl,by rw[<-b6.out,aA];rfl,none,0,0,ah⟩⟩
 clear a6;obtain⟨v,an,rfl,b8,b9,a'⟩:=aB;have cq:=Z b8;have cr:=Z b9;have cs:=Z a';obtain⟨cF,cG,cH,rfl⟩:∃a n c,v=.slice a n c:=by
  rcases a' with⟨f,z,ms,_,_,_,_,h,_⟩|⟨a,k,_,_,h⟩
  ·obtain⟨a,c,e⟩:=h.form;exact⟨_,_,_,e⟩
  ·exact h
 clear b8 b9 a' bA;go_wp2_with fail;go_loopg [3,4,5,6,7] (ts.length+1) (fun g b' cI cJ cK cL wr=> ∃an:DS,BU wr rb T an/\w.grownBy wr (some rb)/\((∃f z ms,an=.ok z d/\CY (G d) f ((ms.length:Int)-1) z ms=R/\z.length<f/\z.length<g/\z.length<=ts.length/\F2 w wr ms b'/\ms≠[]/\ms.length+10*z.length<=5000)\/(∃a k,an=.er a k/\R=.bad a k/\(∃x y a7,b'=.slice x y a7)/\0<=g)));case atStart=>
  refine⟨an,cq.out,cr.out,?_⟩;rcases cs.out with⟨f,z,ms,e,J,ah,a8,a9,aq,aa⟩|⟨a,k,e,J,ah⟩
  ·exact .inl ⟨f,z,ms,e,J,ah,by omega,a8,a9,aq,aa⟩
  ·exact .inr ⟨a,k,e,J,ah,DD _⟩
 case round=>
  obtain⟨an,aB,bC,a'⟩:=hrel;have ca:=Z bC;have cb:=Z aB;rcases a' with⟨f,z,ms,rfl,ap,cc,a0,cd,bD,ce,cf⟩|⟨a,k,rfl,ap,⟨x,y,a7,rfl⟩,_⟩
  ·have ba:=Z ap;have ct:=Z bD;have cg:=Z ce;have X:=Z (BC cc (BC a0 (BC cd cf)));have bE:=aB.Ak;have aE:=Z bE.1;have ch:=Z bE.2.1;obtain⟨cM,c3,rfl⟩:=bD.form;obtain⟨f,rfl⟩:∃cu,f=cu+1:=⟨f-1,by omega⟩;have bF:=Z (bn.out wr z KV aB);obtain⟨ci,bG⟩:=U (Dx z KV);rw[bG]at bF;have bb:=Z (show BT z KV=ci from(ch.out.RF Io.1).trans bG);obtain⟨br,bH⟩:=U (Dx z RH);have cj:=Z (fun af ao=>by have:=bn.out af z RH ao;rw[bH]at this;exact this);have bs:=Z (show BT z RH=br from(ch.out.RF Io.2.1).trans bH);unfold KV sv at bF;unfold RH sv at cj;obtain⟨bt,a,bI,h,ar,au⟩:=aB;obtain⟨a1,a2,a3,bc,c4⟩:=h.cells;have lb:=h.lb;clear h ar au bG bH bE ap cc a0 cd bD ce cf bC;go_wp2_with fail;refine bF.out.mono ?_;rintro e cv ⟨rfl,bu⟩;have ck:=Z (cb.out.grown bu);have cw:=Z (ct.out.grown bu);have cx:=Z (AJ ca.out (Bt bu));clear bu a1 a2 a3 bc c4 lb;go_wp2_with fail;refine(cj.out cv ck.out).mono ?_;rintro e bv ⟨rfl,bw⟩;have a4:=Z (ck.out.grown bw);have bJ:=Z (cw.out.grown bw);have bK:=Z (AJ cx.out (Bt bw));clear bw;cases ci with
   |true=>
    have cy:br=false:=by
      obtain⟨t,r,ag⟩:=aE.out.ne;have J:=(GL (ag▸bb.out)).2;cases br with
      |false=>rfl
      |true=>
        have ah:=(GL (ag▸bs.out)).2;exact Aj (J.symm.trans ah) (by decide)
    subst cy;have bL:=aE.out;have aF:BT z KV=true:=bb.out;obtain⟨aG,aH⟩:=BD aE.out aF;obtain⟨t,r,ag⟩:=aE.out.ne;have bd:t.k≠4:=(GL (ag▸aF)).1;have aI:z.tail=r:=(by rw[ag];rfl);rw[aI]at aG aH;obtain⟨bt,a,bI,h,ar,au⟩:=a4.out;obtain⟨a1,a2,a3,bc,c4⟩:=h.cells;have lb:=h.lb;have bM:=Y.frozen h.BF 1;have bN:(a:Int)<=500:=(by have:=h.lt;have:=h.tg.len;omega);have bO:=Z (BU.next h ar au ag bd);have ab:=Z (Ae aG);have ai:=Z aH;have bP:=Z (show R=((G d (AG r) ms).bind fun y aJ aj=>CY (G d) f aj.length aJ (aj++[{ kind:=4,kids:=[(ms.length:Int)-1,y] }])) by
      rw[<-ba.out,CY,Ai bb.out,aI])
    clear h ar au bL aF aG aH ag bd aI;go_upto_region 10 with(fail);have aK:=AN (AB bv (some rb)) (p:=⟨rb,1,none⟩) (.inl rfl) (.int .i64 ((a:Int)+1));have be:=Z (bJ.out.rb aK a4.out.AO);have bf:=Z (AJ bK.out aK);have aL:=Z bO.out;generalize bv.setCell ⟨rb,1,none⟩ (.int .i64 ((a:Int)+1))=bQ at be bf aL⊢;clear aK a1 a2 a3 bc c4 lb bM bN;have bR:=Z (bo.out bQ r aL.out);go_wp2_with fail;refine bR.out.mono ?_;rintro e bS ⟨rfl,aq,aM⟩;have bg:=Z (be.out.rb aM aL.out.AO);have aN:=Z (AJ bf.out aM);have bh:=Z (bx.out bS (AG r) aq (by have:=ab.out.2;have:=ai.out;have:=X.out;have:=b4.out;omega));have bi:=Z aq.AO;clear aq aM;obtain⟨bj,aw⟩:=U (G d (AG r) []);rw[aw]at bh;have bT:=Z aw;have bk:=Z (show R=((bj.mv ms (Es ms.length)).bind fun y aJ aj=>CY (G d) f aj.length aJ (aj++[{ kind:=4,kids:=[(ms.length:Int)-1,y] }])) by rw[bP.out,JF b2.out,aw]);clear aw;go_wp2_with fail;refine bh.out.mono ?_;cases bj with
    |bad aO aP=>
      rintro e ax ⟨v,rfl,rfl,aa,L⟩;have aQ:=Z aa;have K:=Z (bg.out.rb L bi.out);have ac:=Z (AJ aN.out L);clear aa L;have M:=Z (bp.out [ms,[]] { kind:=4 } _ _ (by rw[BW];have:=ac.out.size;omega) (Mv K.out.1 (Ct.nil _ ax)) (Dt 4) rfl (by intro q F;rcases List.mem_cons.1 F with rfl|F;exact K.out.2.1;rw[DA]at F;subst F;intro x hx;cases hx) (by show _+(_+0)<=_;have:=K.out.2.2;simp only[CU];omega) (by show 2<=1000;omega));unfold Fo AU sv at M;simp only[]at M;go_wp2_with fail;refine M.out.mono ?_;rintro e bl ⟨v,rfl,N,ay,ak⟩;obtain⟨bU,bV,rfl,_⟩:=N.form;have O:=AI (AF (AB ax none) _) ak;have aR:=Z (aQ.out.grown O);have aS:=Z (AJ ac.out (Bt O));have aT:=Z (show R=.bad aO aP from bk.out);clear N ay ak O;go_wp2_with fail;go_roundg (gk-1);case rel=>exact⟨.er aO aP,aR.out,aS.out,.inr ⟨aO,aP,rfl,aT.out,⟨_,_,_,rfl⟩,DD _⟩⟩
      case measure=>have:=X.out;omega
    |ok y al I=>
      rintro e ax ⟨v,rfl,aU,aa,L⟩;obtain⟨bU,bV,rfl⟩:=aU.form;have W:=bz.out _ _ _ _ _ ab.out.1 bT.out;obtain⟨aC,aD,aY,aZ⟩:=W.ne;have ad:=Z (BC aC (BC aD (BC aY (BC aZ W.len))));have aQ:=Z aa;have K:=Z (bg.out.rb L bi.out);have aV:=Z (aU.low aN.out.size);have ac:=Z (AJ aN.out L);have aW:=Z (show ms.length+I.length+1+10*al.length<=5000 by have:=ab.out.2;have:=ai.out;have:=X.out;omega);clear aa L W aC aD aY aZ aU;have M:=Z (bp.out [ms,I] { kind:=4 } _ _ (by rw[BW];have:=ac.out.size;omega) (Mv K.out.1 aV.out.1) (Dt 4) rfl (by intro q F;rcases List.mem_cons.1 F with rfl|F;exact K.out.2.1;rw[DA]at F;subst F;exact aV.out.2.1) (by show _+(_+0)<=_;have:=aW.out;omega) (by show 2<=1000;omega));unfold Fo AU sv at M;simp only[]at M;go_wp2_with fail;refine M.out.mono ?_;rintro e bl ⟨v,rfl,N,ay,ak⟩;have O:=AI (AF (AB ax none) _) ak;have aX:=Dg (ps:=[ms,I]) (n:= { kind:=4 }) (by intro q F;rcases List.mem_cons.1 F with rfl|F;exact K.out.2.1;rw[DA]at F;subst F;exact aV.out.2.1) (by show 2<=1000;omega) rfl;have az:=ME K.out.2.1 cg.out ad.out.1 4;have ae:(Bf [ms,I] { kind:=4 }).length=ms.length+I.length+1:=(by rw[az,BG,Fu,Cj]);obtain⟨am,bm⟩:=U (Bf [ms,I] { kind:=4 });rw[bm]at N aX az ae;obtain⟨u1,u2,rfl,_⟩:=N.form;have bW:=Z (⟨N,aX,by have:=aW.out;omega,fun g a0=>by have J:=ay g a0;rw[BW]at J;have:=ac.out.size;omega⟩:F2 w bl am _);have aR:=Z (aQ.out.grown O);have aS:=Z (AJ ac.out (Bt O));have bX:=Z ae;have aT:=Z (show CY (G d) f ((am.length:Int)-1) al am=R by
        rw[bk.out];show _=CY (G d) f ((E3 ms I).length:Int) al (E3 ms I++[{ kind:=4,kids:=[(ms.length:Int)-1,Es ms.length y] }]);have hy:Es ms.length y=((ms.length+I.length:Nat):Int)-1:=by
          have J:=ad.out.2.1;have ah:=ad.out.2.2.1;rw[Iq _ _ (by omega),J];omega
        rw[hy,<-az,ae,Fu];congr 1
        omega)
      have bY:=Z (show am≠[]from fun e=>by rw[e]at ae;simp at ae);clear N ay ak O aX az ae bm;go_wp2_with fail;go_roundg (gk-1);case rel=>exact⟨.ok al d,aR.out,aS.out,.inl ⟨f,al,am,rfl,aT.out,by have:=ad.out.2.2.2.2;have:=ab.out.2;have:=ai.out;have:=X.out;omega,by have:=ad.out.2.2.2.2;have:=ab.out.2;have:=ai.out;have:=X.out;omega,by have:=ad.out.2.2.2.2;have:=ab.out.2;have:=ai.out;have:=X.out;omega,bW.out,bY.out,by have:=aW.out;have:=bX.out;omega⟩⟩
      case measure=>have:=X.out;omega
   |false=>
    cases br with
    |true=>
     have bL:=aE.out;have aF:BT z RH=true:=bs.out;obtain⟨aG,aH⟩:=BD aE.out aF;obtain⟨t,r,ag⟩:=aE.out.ne;have bd:t.k≠4:=(GL (ag▸aF)).1;have aI:z.tail=r:=(by rw[ag];rfl);rw[aI]at aG aH;obtain⟨bt,a,bI,h,ar,au⟩:=a4.out;obtain⟨a1,a2,a3,bc,c4⟩:=h.cells;have lb:=h.lb;have bM:=Y.frozen h.BF 1;have bN:(a:Int)<=500:=(by have:=h.lt;have:=h.tg.len;omega);have bO:=Z (BU.next h ar au ag bd);have ab:=Z (Ae aG);have ai:=Z aH;have bP:=Z (show R=((G d (AG r) ms).bind fun y aJ aj=>CY (G d) f aj.length aJ (aj++[{ kind:=5,kids:=[(ms.length:Int)-1,y] }])) by
       rw[<-ba.out,CY,AP (by rw[bb.out];decide),Ai bs.out,aI])
     clear h ar au bL aF aG aH ag bd aI;go_upto_region 10 with(fail);have aK:=AN (AB bv (some rb)) (p:=⟨rb,1,none⟩) (.inl rfl) (.int .i64 ((a:Int)+1));have be:=Z (bJ.out.rb aK a4.out.AO);have bf:=Z (AJ bK.out aK);have aL:=Z bO.out;generalize bv.setCell ⟨rb,1,none⟩ (.int .i64 ((a:Int)+1))=bQ at be bf aL⊢;clear aK a1 a2 a3 bc c4 lb bM bN;have bR:=Z (bo.out bQ r aL.out);go_wp2_with fail;refine bR.out.mono ?_;rintro e bS ⟨rfl,aq,aM⟩;have bg:=Z (be.out.rb aM aL.out.AO);have aN:=Z (AJ bf.out aM);have bh:=Z (bx.out bS (AG r) aq (by have:=ab.out.2;have:=ai.out;have:=X.out;have:=b4.out;omega));have bi:=Z aq.AO;clear aq aM;obtain⟨bj,aw⟩:=U (G d (AG r) []);rw[aw]at bh;have bT:=Z aw;have bk:=Z (show R=((bj.mv ms (Es ms.length)).bind fun y aJ aj=>CY (G d) f aj.length aJ (aj++[{ kind:=5,kids:=[(ms.length:Int)-1,y] }])) by rw[bP.out,JF b2.out,aw]);clear aw;go_wp2_with fail;refine bh.out.mono ?_;cases bj with
     |bad aO aP=>
       rintro e ax ⟨v,rfl,rfl,aa,L⟩;have aQ:=Z aa;have K:=Z (bg.out.rb L bi.out);have ac:=Z (AJ aN.out L);clear aa L;have M:=Z (bp.out [ms,[]] { kind:=5 } _ _ (by rw[BW];have:=ac.out.size;omega) (Mv K.out.1 (Ct.nil _ ax)) (Dt 5) rfl (by intro q F;rcases List.mem_cons.1 F with rfl|F;exact K.out.2.1;rw[DA]at F;subst F;intro x hx;cases hx) (by show _+(_+0)<=_;have:=K.out.2.2;simp only[CU];omega) (by show 2<=1000;omega));unfold Fo AU sv at M;simp only[]at M;go_wp2_with fail;refine M.out.mono ?_;rintro e bl ⟨v,rfl,N,ay,ak⟩;obtain⟨bU,bV,rfl,_⟩:=N.form;have O:=AI (AF (AB ax none) _) ak;have aR:=Z (aQ.out.grown O);have aS:=Z (AJ ac.out (Bt O));have aT:=Z (show R=.bad aO aP from bk.out);clear N ay ak O;go_wp2_with fail;go_roundg (gk-1);case rel=>exact⟨.er aO aP,aR.out,aS.out,.inr ⟨aO,aP,rfl,aT.out,⟨_,_,_,rfl⟩,DD _⟩⟩
       case measure=>have:=X.out;omega
     |ok y al I=>
       rintro e ax ⟨v,rfl,aU,aa,L⟩;obtain⟨bU,bV,rfl⟩:=aU.form;have W:=bz.out _ _ _ _ _ ab.out.1 bT.out;obtain⟨aC,aD,aY,aZ⟩:=W.ne;have ad:=Z (BC aC (BC aD (BC aY (BC aZ W.len))));have aQ:=Z aa;have K:=Z (bg.out.rb L bi.out);have aV:=Z (aU.low aN.out.size);have ac:=Z (AJ aN.out L);have aW:=Z (show ms.length+I.length+1+10*al.length<=5000 by have:=ab.out.2;have:=ai.out;have:=X.out;omega);clear aa L W aC aD aY aZ aU;have M:=Z (bp.out [ms,I] { kind:=5 } _ _ (by rw[BW];have:=ac.out.size;omega) (Mv K.out.1 aV.out.1) (Dt 5) rfl (by intro q F;rcases List.mem_cons.1 F with rfl|F;exact K.out.2.1;rw[DA]at F;subst F;exact aV.out.2.1) (by show _+(_+0)<=_;have:=aW.out;omega) (by show 2<=1000;omega));unfold Fo AU sv at M;simp only[]at M;go_wp2_with fail;refine M.out.mono ?_;rintro e bl ⟨v,rfl,N,ay,ak⟩;have O:=AI (AF (AB ax none) _) ak;have aX:=Dg (ps:=[ms,I]) (n:= { kind:=5 }) (by intro q F;rcases List.mem_cons.1 F with rfl|F;exact K.out.2.1;rw[DA]at F;subst F;exact aV.out.2.1) (by show 2<=1000;omega) rfl;have az:=ME K.out.2.1 cg.out ad.out.1 5;have ae:(Bf [ms,I] { kind:=5 }).length=ms.length+I.length+1:=(by rw[az,BG,Fu,Cj]);obtain⟨am,bm⟩:=U (Bf [ms,I] { kind:=5 });rw[bm]at N aX az ae;obtain⟨u1,u2,rfl,_⟩:=N.form;have bW:=Z (⟨N,aX,by have:=aW.out;omega,fun g a0=>by have J:=ay g a0;rw[BW]at J;have:=ac.out.size;omega⟩:F2 w bl am _);have aR:=Z (aQ.out.grown O);have aS:=Z (AJ ac.out (Bt O));have bX:=Z ae;have aT:=Z (show CY (G d) f ((am.length:Int)-1) al am=R by
         rw[bk.out];show _=CY (G d) f ((E3 ms I).length:Int) al (E3 ms I++[{ kind:=5,kids:=[(ms.length:Int)-1,Es ms.length y] }]);have hy:Es ms.length y=((ms.length+I.length:Nat):Int)-1:=by
           have J:=ad.out.2.1;have ah:=ad.out.2.2.1;rw[Iq _ _ (by omega),J];omega
         rw[hy,<-az,ae,Fu];congr 1
         omega)
       have bY:=Z (show am≠[]from fun e=>by rw[e]at ae;simp at ae);clear N ay ak O aX az ae bm;go_wp2_with fail;go_roundg (gk-1);case rel=>exact⟨.ok al d,aR.out,aS.out,.inl ⟨f,al,am,rfl,aT.out,by have:=ad.out.2.2.2.2;have:=ab.out.2;have:=ai.out;have:=X.out;omega,by have:=ad.out.2.2.2.2;have:=ab.out.2;have:=ai.out;have:=X.out;omega,by have:=ad.out.2.2.2.2;have:=ab.out.2;have:=ai.out;have:=X.out;omega,bW.out,bY.out,by have:=aW.out;have:=bX.out;omega⟩⟩
       case measure=>have:=X.out;omega
    |false=>
     have cz:=Z (show R=.ok ((ms.length:Int)-1) z ms by rw[<-ba.out,CY,AP (by rw[bb.out];decide),AP (by rw[bs.out];decide)]);obtain⟨bt,a,bI,h,ar,au⟩:=a4.out;clear h ar au;go_wp2_with fail;rw[cz.out];go_ret;exact⟨_,rfl,bJ.out,a4.out,bK.out⟩
  ·have ba:=Z ap;obtain⟨bt,i,cN,h,cl⟩:=aB;obtain⟨a1,a2,a3,c3,c4⟩:=h.cells;have lb:=h.lb;have cO:(k==0)=false:=Bd cl;clear h cl ap bC;go_wp2_with fail;rw[ba.out];go_ret;exact⟨_,rfl,⟨x,y,a7,rfl⟩,cb.out,ca.out⟩
section
theorem GN:(prog.info? 22).map (fun i=>(i.zero,i.size,i.bytes))=some (some (.slice none 0 0),1,24):=by kernel_rfl
theorem KI(W:World)(b:Nat)(a:Option Addr)(m c:Nat)(z:W.heap.size=b):Src prog 1 110 (.slice (some ⟨b,0,none⟩) 1 1) 1 [.slice a m c] (W.alloc (.cells #[.slice a m c] 22)):=by
 subst z;exact Own.src (P:=prog) (tx:=110) (e':=22) (n:=1) (xs:=[.slice a m c]) (k:=0) (e:=22) ⟨rfl,.inr ⟨W.heap.size,0,1,_,(0,0),rfl,Y.new W 22 _,BN _,BN _,by unfold maxLen;omega,by show 0+1*1<=1;omega,fun j G=>(by(have F:j=0:=by omega);subst F;rfl)⟩⟩ (by kernel_rfl) (by intro u h;simp at h;subst h;rfl)
theorem Ct.US{av:Nat->Prop}{w w':World}{v:Value}{ns:List V}{S:Nat->Prop}(I:Ct av w v ns)(J:Az S w w')(K:∀k,S k->Bn w k 22):Ct av w' v ns:=by
 obtain⟨L,M,N⟩:=I;have z:∀ {e:TypeId} {s n k:Nat} {v:Value} {xs:List Value},Own w e s v n xs k->e≠22->Own w' e s v n xs k:=fun G O=>G.Bo J fun g X e=>O ((G.AO X).uniq (K g e))
 refine⟨L,z M (by decide),fun i F=>?_⟩;obtain⟨a,b,r,p,k,e,h⟩:=N i F;obtain⟨ps,aa,ab,ac⟩:=h.AT;exact⟨a,b,r,p,k,e,z h.AZ (by decide),z h.words (by decide),z h.DJ (by decide),⟨ps,z aa (by decide),ab,fun i F=>by obtain⟨u,ad,hs,ae⟩:=ac i F;exact⟨u,ad,z hs (by decide),ae⟩⟩,z h.kids (by decide),h.ha,h.hb,h.hr,h.hk⟩
def DY(w0 w:World)(v:Value)(ps:List (List V)):Prop:=∃h,Own w 22 1 v ps.length h 0/\ ∀i (z:i<ps.length),∃u,h[i]? =some u/\Ct (low w0) w u ps[i]/\ ∀g,u.ownBlock=some g->w0.heap.size<=g
theorem DY.S{w0 w:World}{v:Value}{ps:List (List V)}(h:DY w0 w v ps):GZ (low w0) w v ps:=by
 obtain⟨z,F,G⟩:=h;exact⟨z,F,fun i I=>by obtain⟨u,e,J,_⟩:=G i I;exact⟨u,e,J⟩⟩
theorem DY.M6{w0 w w':World}{rb:Nat}{v:Value}{ps:List (List V)}(F:DY w0 w v ps)(h:w.grownBy w' (some rb))(z:Bn w rb 86):DY w0 w' v ps:=by
 obtain⟨G,I,J⟩:=F;exact⟨G,Dl h z I (by decide),fun i K=>by obtain⟨u,L,M,N⟩:=J i K;exact⟨u,L,M.M6 h z,N⟩⟩
theorem DY.grown{w0 w w':World}{v:Value}{ps:List (List V)}(z:DY w0 w v ps)(h:w.grownBy w' none):DY w0 w' v ps:=by
 obtain⟨F,G,I⟩:=z;exact⟨F,Bl h G,fun i J=>by obtain⟨u,K,L,M⟩:=I i J;exact⟨u,K,L.grown h,M⟩⟩
theorem DY.at_{w0 w:World}{v:Value}{ps:List (List V)}(G:DY w0 w v ps)(i:Nat)(I:i<ps.length):∃g h z a c,v=.slice (some ⟨g,h,none⟩) ps.length z/\g<w.heap.size/\w.cell? ⟨g,h+i,none⟩=some (.slice a ps[i].length c)/\Ct (low w0) w (.slice a ps[i].length c) ps[i]/\ ∀g,(Value.slice a ps[i].length c).ownBlock=some g->w0.heap.size<=g:=by
 obtain⟨X,J,K⟩:=G;obtain⟨g,h,z,rfl,_,_,L,M⟩:=J.some_ (by omega);obtain⟨u,N,F,O⟩:=K i I;obtain⟨a,c,rfl,_⟩:=F.form;refine⟨g,h,z,a,c,rfl,L,?_,F,O⟩;have:=M i (by omega);rw[this,N]
theorem Kj{w0 w:World}{v:Value}{ms:List V}(z:Ct (low w0) w v ms)(F:∀g,v.ownBlock=some g->w0.heap.size<=g):DY w0 (w.alloc (.cells #[v] 22)) (.slice (some ⟨w.heap.size,0,none⟩) 1 1) [ms]:=by
 refine⟨[v],⟨rfl,.inr ⟨w.heap.size,0,1,_,(0,0),rfl,Y.new w 22 _,BN _,BN _,by unfold maxLen;omega,by show 0+1*1<=1;omega,fun j G=>(by(have J:j<1:=G);(have h:j=0:=by omega);subst h;rfl)⟩⟩,fun i I=>?_⟩;have h:i=0:=(by simpa using I);subst h;exact⟨v,rfl,z.grown (AF (AB w none) _),F⟩
theorem My{w0 w:World}{v u:Value}{ms h:List V}(z:Ct (low w0) w v ms)(F:Ct (low w0) w u h)(G:∀g,v.ownBlock=some g->w0.heap.size<=g)(I:∀g,u.ownBlock=some g->w0.heap.size<=g):DY w0 (w.alloc (.cells #[v,u] 22)) (.slice (some ⟨w.heap.size,0,none⟩) 2 2) [ms,h]:=by
 refine⟨[v,u],⟨rfl,.inr ⟨w.heap.size,0,2,_,(0,0),rfl,Y.new w 22 _,BN _,BN _,by unfold maxLen;omega,by show 0+2*1<=2;omega,fun j J=>?_⟩⟩,fun i K=>?_⟩
 ·have L:j<2:=J;match j,L with
  |0,_=>rfl
  |1,_=>rfl
 ·have M:i<2:=K;match i,M with
  |0,_=>exact⟨v,rfl,z.grown (AF (AB w none) _),G⟩
  |1,_=>exact⟨u,rfl,F.grown (AF (AB w none) _),I⟩
structure KU(w W:World)(rb:Nat)(T:List AY)(st:DS)(v:Value)(ps:List (List V)):Prop where
 st:BU W rb T st
 parts:DY w W v ps
 new:∀g,v.ownBlock=some g->w.heap.size<=g
 kb:∀ms∈ps,KB ms
 gr:w.grownBy W (some rb)
 E8:rb<w.heap.size
section
variable {w W W' wA:World}{rb:Nat}{T:List AY}{st st':DS}{v vA:Value}{ps:List (List V)}
theorem KU.step(h:KU w W rb T st v ps)(z:W.grownBy W' (some rb))(F:BU W' rb T st'):KU w W' rb T st' v ps:=⟨F,h.parts.M6 z h.st.AO,h.new,h.kb,AJ h.gr z,h.E8⟩
theorem KU.grown(h:KU w W rb T st v ps)(z:W.grownBy W' none):KU w W' rb T st v ps:=h.step (Bt z) (h.st.grown z)
theorem KU.form(h:KU w W rb T st v ps):∃a c,v=.slice a ps.length c:=by
 obtain⟨F,z,_⟩:=h.parts;obtain⟨a,c,e,_⟩:=z.form;exact⟨a,c,e⟩
theorem KU.nil(z:BU W rb T st)(h:w.grownBy W (some rb))(F:rb<w.heap.size):KU w W rb T st (.slice none 0 0) []:=⟨z,⟨[],Own.nil _ _ _ _,fun i G=>Aj G (by simp)⟩,fun g h=>(by cases h),fun ms I=>(by cases I),h,F⟩
theorem KU.first(F:BU W rb T st)(h:w.grownBy W (some rb))(G:rb<w.heap.size){u:Value}{ms:List V}(I:Ct (low w) W u ms)(hk:KB ms)(J:∀g,u.ownBlock=some g->w.heap.size<=g):KU w (W.alloc (.cells #[u] 22)) rb T st (.slice (some ⟨W.heap.size,0,none⟩) 1 1) [ms]:=
 ⟨F.grown (AF (AB W none) _),Kj I J,fun g K=>by simp[Value.ownBlock]at K;have:=h.size;omega,fun m z=>by rw[DA]at z;subst z;exact hk,AF h _,G⟩
theorem KU.app(h:KU w W rb T st v ps){z:List Value}(J:Own W 22 1 v ps.length z 0)(M:∀i (h:i<ps.length),∃u,z[i]? =some u/\Ct (low w) W u ps[i]/\ ∀g,u.ownBlock=some g->w.heap.size<=g)(o:Obj){u:Value}{ms:List V}(N:Ct (low w) W u ms)(hk:KB ms)(O:∀g,u.ownBlock=some g->w.heap.size<=g)
  (X:Own wA 22 1 vA (ps.length+1) (z++[u]) 0) (F:Az (fun g=>v.ownBlock=some g) (W.alloc o) wA) (aa:∀g,vA.ownBlock=some g->v.ownBlock=some g\/(W.alloc o).heap.size<=g):KU w wA rb T st vA (ps++[ms]):=by
 have G:=AF (AB W none) o;have K:∀k,v.ownBlock=some k->Bn (W.alloc o) k 22:=fun k e=>Own.AO (Bl G J) e
 refine⟨(h.st.grown G).Bo F (fun k e=>by have:=h.new k e;have:=h.E8;omega),⟨z++[u],by rw[BG,Cj];exact X,fun i ab=>?_⟩,fun g ac=>?_,fun m I=>?_,F7 h.gr o F h.new,h.E8⟩
 ·rw[BG,Cj]at ab;have ah:=J.len;by_cases L:i<ps.length
  ·obtain⟨ad,ae,af,ag⟩:=M i L;refine⟨ad,by rw[Gx (by omega)];exact ae,?_⟩;rw[List.getElem_append_left L];exact⟨(af.grown G).US F K,ag⟩
  ·obtain rfl:i=ps.length:=by omega
   refine⟨u,by rw[Ig (by omega),show ps.length-z.length=0 by omega];rfl,?_⟩;rw[List.getElem_append_right (BN _)];simp only[Nat.sub_self,List.getElem_cons_zero];exact⟨(N.grown G).US F K,O⟩
 ·rcases aa g ac with e|e
  ·exact h.new g e
  ·rw[BW]at e;have:=h.gr.size;omega
 ·rw[ID,DA]at I;rcases I with I|rfl
  ·exact h.kb m I
  ·exact hk
end
def I6(h:Bool)(kids:List Int)(z:List AY)(ns:List V):PR Int:=if 1<kids.length then Ff h ns.length z (ns++[{ kind:=3,kids:=kids }])else Ff h (kids.headD 0) z ns
def ED(ps:List (List V)):List V:=if 1<ps.length then Bf ps { kind:=3 } else ps.headD []
theorem R5{F:Bool}{ps:List (List V)}{z:List AY}(hk:∀ms∈ps,KB ms)(G:∀ms∈ps,ms≠[])(I:ps≠[]):I6 F (AQ ps).2 z (AQ ps).1=if F=true then .ok (ED ps).length z (ED ps++[{ kind:=2,kids:=[((ED ps).length:Int)-1] }])else .ok (((ED ps).length:Int)-1) z (ED ps):=by
 unfold I6 ED;rw[Il];by_cases h:1<ps.length
 ·rw[Ai h,Ai h];have J:Bf ps { kind:=3 } =(AQ ps).1++[{ kind:=3,kids:=(AQ ps).2 }]:=rfl;rw[J];have K:(((AQ ps).1++[({ kind:=3,kids:=(AQ ps).2 } :V)]).length:Int)-1=((AQ ps).1.length:Int):=(by rw[BG,Cj];omega);rw[K];unfold Ff Ao;rfl
 ·rw[AP h,AP h];match ps,I with
  |[ms],_=>
   have L:=hk ms (List.mem_singleton.2 rfl);rw[Fy L (G ms (List.mem_singleton.2 rfl))];unfold Ff Ao;rfl
  |a::b::c,_=>exact Aj (by simp) h
theorem Cf(ps:List (List V))(n:V):(Bf ps n).length=BP ps+1:=by simp[Bf,J2]
theorem Eb(ps:List (List V))(ms:List V):BP (ps++[ms])=BP ps+ms.length:=by simp[BP]
theorem DU{ps:List (List V)}{ms:List V}(h:ms≠[]):AQ (ps++[ms])=(E3 (AQ ps).1 ms,(AQ ps).2++[(((AQ ps).1.length+ms.length:Nat):Int)-1]):=by rw[GH];unfold CH;rw[AP h]
theorem Rb:Da∉D9:=by decide
theorem RO(n:Nat)(F:Eg)(bR:∀d,Ki 5 (F d))(bS:∀d,Lk (F d))(bT:Sa TG 101 F n):Sa Lm 89 (fun d=>FM (F d)) n:=by
 intro rb T d ts w h aS;have bU:=Z (fun W ts M K=>bT rb T d ts W M K);have bV:=Z (bR d);have cH:=Z (bS d);have a7:=Z (fun W ts s (M:BU W rb T (.ok ts d))=>FE rb T (.ok ts d) s W M);have a8:=Z (fun W ts s (M:BU W rb T (.ok ts d))=>Gg rb T (.ok ts d) s W M);have a9:=Z (fun W ts (M:BU W rb T (.ok ts d))=>DM rb T (.ok ts d) W M);have bW:=Z (fun ps n cI W (M:w.heap.size<=W.heap.size) ae aS hk cJ cK K=>F3 (low w) ps n cI (.slice none 0 0) (.slice none 0 0) (.slice none 0 0) (.slice none 0 0) W (fun k hk=>DZ hk M) ae aS hk cJ cK K);unfold Qb Je at a7;unfold Qb Lj at a8;unfold Qu B9 at a9;simp only[]at a7 a9 a8;have a':=Z h.Ak;have bX:=Z h.lb;have bY:=Z aS;have ba:=Z h;show Calls prog 89 #[.pointer (some ⟨rb,0,none⟩)] w (GU (F2 w) Lm rb T d w (FM (F d) ts []));obtain⟨L,aT⟩:=U (BT ts Da);obtain⟨aC,aU⟩:=U (A5 ts Da);obtain⟨R,N⟩:=U (FM (F d) ts []);rw[N];have bb:=Z aT;have bc:=Iu (s:=Da) h.Ak.1;rw[aU]at bc;have bd:=Z bc;obtain⟨bZ,be⟩:=U (F d aC []);have b0:=Z be;have b1:=Z (show(bZ.bind fun x b2 ns=>(DK (F d) (b2.length+1) [x] b2 ns).bind (I6 L))=R by
  rw[<-N,<-be,<-aU,<-aT];rfl)
 have bf:=Z (a8.out w ts Da h);rw[show GD ts Da=L from(h.Ak.2.1.Wv Rb).symm.trans aT]at bf;unfold Da sv at bf;have b3:=Z aU;clear N be bc aT aU h aS bT bR bS;go_enter func89,ntmps89;go_wp2_with fail;refine bf.out.mono ?_;rintro e de ⟨rfl,bg⟩;have b4:=Z (ba.out.grown bg);have b5:=Z (Bt (rb:=rb) bg);clear bg;go_upto_if 9 with(fail);go_cut [] (fun ap=>BU ap rb T (.ok aC d)/\w.grownBy ap (some rb));case first=>
  cases L with
  |false=>
   have bh:=Z (show ts=aC by rw[<-b3.out];unfold A5;rw[bb.out];rfl);go_wp2_with fail;go_meet;exact⟨by rw[<-bh.out];exact b4.out,b5.out⟩
  |true=>
   obtain⟨t,r,O⟩:=a'.out.1.ne;have b6:aC=r:=(by rw[<-b3.out];unfold A5;rw[bb.out,O];rfl);obtain⟨aV,a,bi,h,X,aa⟩:=b4.out;obtain⟨af,ag,ah,c3,c4⟩:=h.cells;have lb:=h.lb;have b7:=Y.frozen h.BF 1;have b8:(a:Int)<=500:=(by have:=h.lt;have:=h.tg.len;omega);have bj:=Z (BU.next h X aa O (GL (O▸bb.out)).1);have bh:=Z b6;clear h X aa O b6;go_wp2_with fail;go_meet;exact⟨by rw[bh.out];exact bj.out,AN b5.out (p:=⟨rb,1,none⟩) (.inl rfl) _⟩
 case rest=>
  obtain⟨J,aq⟩:=hcut;have df:=Z J;have b9:=Z aq;have bk:=Z (bU.out wc aC J (by have:=bd.out.2;have:=bY.out;omega));rw[b0.out]at bk;clear J aq;go_wp2_with fail;refine bk.out.mono ?_;intro e aW aD;have J:∃(v:Value) (st:DS),e=.returned v/\BU aW rb T st/\wc.grownBy aW (some rb)/\(∃x y aX,v=.slice x y aX)/\((∃f z ms,st=.ok z d/\(DK (F d) f (AQ [ms]).2 z (AQ [ms]).1).bind (I6 L)=R/\z.length<f/\z.length<=ts.length/\F2 w aW ms v/\ms≠[]/\ms.length+10*z.length<=5000)\/(∃a k,st=.er a k/\R=.bad a k)):=by
   cases ae:bZ with
   |ok x z ms=>
    rw[ae]at aD;obtain⟨v,I,ac,aE,ai⟩:=aD;have K:=bV.out _ _ _ _ _ bd.out.1 (b0.out.trans ae);obtain⟨aF,aY,bl,bm⟩:=K.ne;have dg:=K.len;have dh:=a'.out.2.2.2.1;have di:=bd.out.2;obtain⟨a,c,cL⟩:=ac.form;refine⟨v,.ok z d,I,aE,ai,⟨_,_,_,cL⟩,.inl ⟨z.length+1,z,ms,rfl,?_,by omega,by omega,ac.low b9.out.size,aF,by omega⟩⟩;rw[<-b1.out,ae,Fy ac.2.1 aF,<-aY];rfl
   |bad a k=>
    rw[ae]at aD;obtain⟨v,I,ac,aE,ai⟩:=aD;exact⟨v,.er a k,I,aE,ai,ac,.inr ⟨a,k,rfl,by rw[<-b1.out,ae];rfl⟩⟩
  clear aD;obtain⟨v,st,rfl,b',ca,⟨dj,dk,dl,rfl⟩,aZ⟩:=J;have cb:=Z b';have cc:=Z (AJ b9.out ca);have cM:=Z aZ;clear b' ca aZ bk;go_wp2_with fail;go_loopg [4,5] (ts.length+1) (fun g cd dm wr=> ∃st:DS,(∃x y aX,cd=.slice x y aX)/\BU wr rb T st/\w.grownBy wr (some rb)/\((∃f z ps,st=.ok z d/\(DK (F d) f (AQ ps).2 z (AQ ps).1).bind (I6 L)=R/\z.length<f/\z.length<g/\z.length<=ts.length/\KU w wr rb T (.ok z d) cd ps/\ps≠[]/\(∀ms∈ps,ms≠[])/\BP ps+10*z.length<=5000/\ps.length+z.length<=600)\/(∃a k,st=.er a k/\R=.bad a k)));case atStart=>
   refine⟨st,⟨_,_,_,rfl⟩,cb.out.grown (AF (AB aW none) _),AF cc.out _,?_⟩;rcases cM.out with⟨f,z,ms,e,I,ac,aE,ai,aG,aj⟩|⟨a,k,e,I⟩
   ·refine .inl ⟨f,z,[ms],e,I,ac,by omega,aE,KU.first (e▸cb.out) cc.out bX.out ai.1 ai.2.1 ai.2.2.2,by simp,?_,by simpa [BP]using aj,?_⟩
    ·intro m ak;rw[DA]at ak;subst ak;exact aG
    ·have:=a'.out.2.2.2.1;simp only[Cj];omega
   ·exact .inr ⟨a,k,e,I⟩
  case round=>
   obtain⟨st,⟨x,y,aX,ce⟩,J,aq,aZ⟩:=hrel;have cN:=Z aq;have ba:=Z J;rcases aZ with⟨f,z,ps,rfl,N,cf,ar,cg,bn,ch,ci,cj,ck⟩|⟨a,k,rfl,N⟩
   ·have a0:=Z N;have cO:=Z bn;have aH:=Z (BC ch ci);have ab:=Z (BC cf (BC ar (BC cg (BC cj ck))));have cl:=Z J.Ak.1;have cP:=Z J.Ak.2.1;obtain⟨cm,c4,cQ⟩:=bn.form;subst cQ;clear ce;obtain⟨f,rfl⟩:∃cR,f=cR+1:=⟨f-1,by omega⟩;obtain⟨cn,bo⟩:=U (Dx z F4);have bp:=Z (a7.out wr z F4 J);rw[bo]at bp;have a1:=Z (show BT z F4=cn from(cP.out.RF Io.2.2.2.2.2.1).trans bo);unfold F4 sv at bp;obtain⟨aV,a,bi,h,X,aa⟩:=J;obtain⟨af,ag,ah,c3,aI⟩:=h.cells;have lb:=h.lb;have dn:ps.length<=600:=(by omega);clear h X aa bo N cf ar cg bn ch ci cj ck aq;go_wp2_with fail;refine bp.out.mono ?_;rintro e co ⟨rfl,cp⟩;have G:=Z (cO.out.grown cp);clear cp af ag ah c3 aI lb;cases cn with
    |true=>
     obtain⟨bq,br⟩:=BD cl.out a1.out;obtain⟨t,r,O⟩:=cl.out.ne;have cq:t.k≠4:=(GL (O▸a1.out)).1;have bs:z.tail=r:=(by rw[O];rfl);rw[bs]at bq br;obtain⟨aV,a,bi,h,X,aa⟩:=G.out.st;obtain⟨af,ag,ah,c3,aI⟩:=h.cells;have lb:=h.lb;have b7:=Y.frozen h.BF 1;have b8:(a:Int)<=500:=(by have:=h.lt;have:=h.tg.len;omega);have bj:=Z (BU.next h X aa O cq);have au:=Z (Ae bq);have aJ:=Z br;have cS:=Z (show R=((F d (AG r) (AQ ps).1).bind fun y bt bu=>DK (F d) f ((AQ ps).2++[y]) bt bu).bind (I6 L) by
      rw[<-a0.out,DK,Ai a1.out,bs])
     clear h X aa bq br O cq bs;go_upto_region 9 with(fail);have cr:=AN (AB co (some rb)) (p:=⟨rb,1,none⟩) (.inl rfl) (.int .i64 ((a:Int)+1));have bv:=Z (G.out.step cr bj.out);generalize co.setCell ⟨rb,1,none⟩ (.int .i64 ((a:Int)+1))=cT at bv⊢;clear cr af ag ah c3 aI lb b7 b8;have cU:=Z (a9.out cT r bv.out.st);go_wp2_with fail;refine cU.out.mono ?_;rintro e cV ⟨rfl,aG,cs⟩;have al:=Z (bv.out.step cs aG);have ct:=Z (bU.out cV (AG r) aG (by have:=au.out.2;have:=aJ.out;have:=ab.out;have:=bY.out;omega));clear aG cs;obtain⟨cu,a2⟩:=U (F d (AG r) []);rw[a2]at ct;have cW:=Z a2;have cv:=Z (show R=((cu.mv (AQ ps).1 (Es (AQ ps).1.length)).bind fun y bt bu=>DK (F d) f ((AQ ps).2++[y]) bt bu).bind (I6 L) by rw[cS.out,JF cH.out,a2]);clear a2;go_wp2_with fail;refine ct.out.mono ?_;cases cu with
     |bad bw bx=>
      rintro e cX ⟨v,rfl,⟨aK,aL,cw,rfl⟩,aj,aw⟩;obtain⟨bz,am,a3⟩:=al.out.parts.M6 aw al.out.st.AO;have a4:=Z am;have a5:=Z aj;have ax:=Z (AJ al.out.gr aw);have bA:=Z (show R=.bad bw bx from cv.out);clear aj aw am a3;go_wp2_with (at_builtin;refine AV 22 (.slice none 0 0) 1 24 underlying110 GN rfl (.slice cm ps.length c4) ps.length bz 0 _ 1 [.slice aK aL cw] rfl rfl (Own.alloc a4.out _) (by omega) (KI _ _ aK aL cw rfl) (by unfold maxLen;omega) (by omega) ?_;intro vA wA ay az a6 _;(have cY:=Z ((a5.out.grown (AF (AB _ none) _)).Bo az (fun k e=>by have:=al.out.new k e;have:=bX.out;omega)));(have cZ:=Z (F7 ax.out _ az al.out.new));(obtain⟨c0,c1,rfl,_,_⟩:=Own.form ay);clear ay az a6);go_roundg (gk-1);case rel=>exact⟨.er bw bx,⟨_,_,_,rfl⟩,cY.out,cZ.out,.inr ⟨bw,bx,rfl,bA.out⟩⟩
      case measure=>have:=ab.out;omega
     |ok cx aA ad=>
      rintro e cX ⟨v,rfl,bB,aj,aw⟩;obtain⟨aK,aL,rfl⟩:=bB.form;have K:=bV.out _ _ _ _ _ au.out.1 cW.out;obtain⟨aF,aY,bl,bm⟩:=K.ne;have an:=Z (BC aF (BC aY (BC bl (BC bm K.len))));have cy:=Z (al.out.step aw aj);have bC:=Z (bB.low al.out.gr.size);have cz:=Z (show BP ps+ad.length+10*aA.length<=5000/\ps.length+1+aA.length<=600 by have:=au.out.2;have:=aJ.out;have:=ab.out;have:=K.len;omega);clear aj aw K aF aY bl bm bB;obtain⟨bz,am,a3⟩:=cy.out.parts;have a4:=Z am;have c2:=Z a3;clear am a3;have bA:=Z (show(DK (F d) f (AQ (ps++[ad])).2 aA (AQ (ps++[ad])).1).bind (I6 L)=R by
       rw[cv.out,DU an.out.1];show _=(DK (F d) f ((AQ ps).2++[Es (AQ ps).1.length cx]) aA (E3 (AQ ps).1 ad)).bind (I6 L);have hy:Es (AQ ps).1.length cx=(((AQ ps).1.length+ad.length:Nat):Int)-1:=by
        have I:=an.out.2.1;have ac:=an.out.2.2.1;rw[Iq _ _ (by omega),I];omega
       rw[hy])
      go_wp2_with (at_builtin;refine AV 22 (.slice none 0 0) 1 24 underlying110 GN rfl (.slice cm ps.length c4) ps.length bz 0 _ 1 [.slice aK ad.length aL] rfl rfl (Own.alloc a4.out _) (by omega) (KI _ _ aK ad.length aL rfl) (by unfold maxLen;omega) (by omega) ?_;intro vA wA ay az a6 _;(have bD:=Z (KU.app cy.out a4.out c2.out _ bC.out.1 bC.out.2.1 bC.out.2.2.2 ay az a6));(obtain⟨c0,c1,rfl,_,_⟩:=Own.form ay);clear ay az a6);go_roundg (gk-1);case rel=>exact⟨.ok aA d,⟨_,_,_,rfl⟩,bD.out.st,bD.out.gr,.inl ⟨f,aA,ps++[ad],rfl,bA.out,by have:=an.out.2.2.2.2;have:=au.out.2;have:=aJ.out;have:=ab.out;omega,by have:=an.out.2.2.2.2;have:=au.out.2;have:=aJ.out;have:=ab.out;omega,by have:=an.out.2.2.2.2;have:=au.out.2;have:=aJ.out;have:=ab.out;omega,bD.out,by simp,by intro m ak;rw[ID,DA]at ak;rcases ak with ak|rfl;exact aH.out.2 m ak;exact an.out.1,by rw[Eb];exact cz.out.1,by rw[BG,Cj];exact cz.out.2⟩⟩
      case measure=>have:=ab.out;omega
    |false=>
     have bE:R=I6 L (AQ ps).2 z (AQ ps).1:=(by rw[<-a0.out,DK,AP (by rw[a1.out];decide)];rfl);rw[R5 G.out.kb aH.out.2 aH.out.1]at bE;have cA:=Z bE;obtain⟨aV,a,bi,h,X,aa⟩:=G.out.st;obtain⟨af,ag,ah,c3,aI⟩:=h.cells;have lb:=h.lb;have aM:0<ps.length:=List.length_pos_iff.2 aH.out.1;obtain⟨dp,dq,dr,ds,dt,bF,c5,u0,cB⟩:=G.out.parts.at_ 0 aM;injection bF with bF _ c6;subst bF c6;rw[Nat.add_zero]at u0;have c7:(0:Int)<(ps.length:Int):=(by omega);have bG:=Z cB;have aN:=Z (show ps.headD []=ps[0] by cases ps with|nil=>simp at aM|cons p ps=>rfl);have cC:=Z (G.out.kb _ (Cp aM));obtain⟨cD,bH⟩:=U (ps[0]);rw[bH]at u0 bG aN cC;have aB:=Z (show(ED ps).length<=5001/\KB (ED ps) by
      have I:=ab.out.2.2.2.1;unfold ED;split
      ·exact⟨by rw[Cf];omega,Dg G.out.kb (by omega) rfl⟩
      ·rw[aN.out];refine⟨?_,cC.out⟩;have:=Js ps 0 aM;rw[bH]at this;omega)
     clear h X aa bE cB bH;go_upto_if 53 with(fail);go_cut [6] (fun c8 ap=>F2 w ap (ED ps) c8/\BU ap rb T (.ok z d)/\w.grownBy ap (some rb));case first=>
      by_cases I:1<ps.length
      ·have am:decide ((1:Int)<(ps.length:Int))=true:=Au (by omega);have bI:=Z (bW.out ps { kind:=3 } _ _ G.out.gr.size G.out.parts.S (Dt 3) rfl G.out.kb (by have:=ab.out.2.2.2.1;omega) (by omega));unfold Fo AU sv at bI;simp only[]at bI;have bJ:=Z (show ED ps=Bf ps { kind:=3 } from Ai I);go_wp2_with fail;refine bI.out.mono ?_;rintro e c9 ⟨v,rfl,ao,aO,aP⟩;obtain⟨u1,u2,rfl,_⟩:=ao.form;have bK:=Z ao;have bL:=Z (fun g ar=>E0 G.out.gr.size (aO g ar));have cE:=Z (G.out.grown aP);clear ao aO aP;go_wp2_with fail;go_meet;exact⟨⟨by rw[bJ.out];exact bK.out,aB.out.2,by have:=aB.out.1;omega,bL.out⟩,cE.out.st,cE.out.gr⟩
      ·have am:decide ((1:Int)<(ps.length:Int))=false:=As (by omega);have bJ:=Z (show ED ps=cD by unfold ED;rw[AP I,aN.out]);go_wp2_with fail;go_meet;exact⟨⟨by rw[bJ.out];exact bG.out.1,aB.out.2,by have:=aB.out.1;omega,bG.out.2⟩,G.out.st,G.out.gr⟩
     case rest=>
      obtain⟨bM,cF,cG⟩:=hcut;obtain⟨u1,u2,rfl⟩:=bM.form;have aQ:=Z bM;have a5:=Z cF;have ax:=Z cG;clear bM cF cG af ag ah c3 aI lb u0 c5 c7;have c':=Z (show ED ps≠[] by
       unfold ED;split
       ·intro e;have:=congrArg List.length e;rw[Cf]at this;simp at this
       ·rw[aN.out];exact aH.out.2 cD (by rw[<-aN.out];cases ps with|nil=>simp at aM|cons p ps=>exact En ..))
      cases L with
      |false=>
       have bN:=Z (show R=.ok (((ED ps).length:Int)-1) z (ED ps)from cA.out);go_wp2_with fail;rw[bN.out];go_ret;exact⟨_,rfl,aQ.out,a5.out,ax.out⟩
      |true=>
       have bN:=Z (show R=.ok (ED ps).length z (ED ps++[{ kind:=2,kids:=[((ED ps).length:Int)-1] }])from cA.out);have bO:=Z (bW.out [ED ps] { kind:=2 } _ _ (by rw[BW];have:=ax.out.size;omega) (Mz aQ.out.1) (Dt 2) rfl (by intro q aR;rw[DA]at aR;subst aR;exact aQ.out.2.1) (by show _+0<=_;have:=aB.out.1;omega) (by show 1<=1000;omega));have da:=Z (MC aQ.out.2.1 c'.out 2);have db:=Z (Dg (ps:=[ED ps]) (n:= { kind:=2 }) (by intro q aR;rw[DA]at aR;subst aR;exact aQ.out.2.1) (by show 1<=1000;omega) rfl);unfold Fo AU sv at bO;simp only[]at bO;go_wp2_with fail;refine bO.out.mono ?_;rintro e c9 ⟨v,rfl,ao,aO,aP⟩;obtain⟨du,dv,rfl,_⟩:=ao.form;have bK:=Z ao;have bL:=Z (fun g ar=>E0 (E0 ax.out.size (by rw[BW];omega)) (aO g ar));have bP:=AI (AF (AB _ none) _) aP;have dc:=Z (a5.out.grown bP);have dd:=Z (AJ ax.out (Bt bP));clear ao aO aP bP;go_wp2_with fail;rw[bN.out,<-da.out];go_ret;exact⟨_,rfl,⟨bK.out,db.out,by rw[Cf];show _+0+1<=_;have:=aB.out.1;omega,bL.out⟩,dc.out,dd.out⟩
   ·have a0:=Z N;subst ce;obtain⟨aV,i,dw,h,bQ⟩:=J;obtain⟨af,ag,ah,c3,c4⟩:=h.cells;have lb:=h.lb;have dx:(k==0)=false:=Bd bQ;have dy:(k !=0)=true:=JY bQ;clear h bQ N aq;go_wp2_with fail;rw[a0.out];go_ret;exact⟨_,rfl,rfl,ba.out,cN.out⟩
end
end Go.Proofs.YtdhfhphbkfgamaaGreat
