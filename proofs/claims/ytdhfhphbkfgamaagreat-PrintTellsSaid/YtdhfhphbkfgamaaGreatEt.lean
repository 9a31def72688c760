/- PrintTells: a part of its proof. -/
import Derived.Test.YtdhfhphbkfgamaaGreatEr
set_option maxRecDepth 100000
set_option maxHeartbeats 64000000
namespace Go.Proofs.YtdhfhphbkfgamaaGreat
section
open Go.RowKit Lx
theorem Z0v {P:Prop} (h:P:=by
 go_enter Tryz.func91,Tryz.ntmps91;go_wp2_with fail;go_ret;exact⟨Bq (a:=true) (by decide),rfl⟩):P:=h
theorem KK (s:List UInt8) (w:World):Calls Tryz.prog 91 #[sv s] w (fun e w'=>e=.returned (.bool (DW s))∧w'=w):=by
 unfold sv;by_cases h:s=[33]
 ·subst h;exact Z0v
 have ae:(s==[33])=false:=Ba h;by_cases z:s=[123]
 ·subst z;exact Z0v
 have af:(s==[123])=false:=Ba z;by_cases F:s=[125]
 ·subst F;exact Z0v
 have ag:(s==[125])=false:=Ba F;by_cases G:s=[99,97,115,101]
 ·subst G;exact Z0v
 have ah:(s==[99,97,115,101])=false:=Ba G;by_cases I:s=[100,111]
 ·subst I;exact Z0v
 have ai:(s==[100,111])=false:=Ba I;by_cases J:s=[100,111,110,101]
 ·subst J;exact Z0v
 have aj:(s==[100,111,110,101])=false:=Ba J;by_cases K:s=[101,108,105,102]
 ·subst K;exact Z0v
 have ak:(s==[101,108,105,102])=false:=Ba K;by_cases L:s=[101,108,115,101]
 ·subst L;exact Z0v
 have al:(s==[101,108,115,101])=false:=Ba L;by_cases M:s=[101,115,97,99]
 ·subst M;exact Z0v
 have am:(s==[101,115,97,99])=false:=Ba M;by_cases N:s=[102,105]
 ·subst N;exact Z0v
 have an:(s==[102,105])=false:=Ba N;by_cases O:s=[102,111,114]
 ·subst O;exact Z0v
 have ao:(s==[102,111,114])=false:=Ba O;by_cases W:s=[105,102]
 ·subst W;exact Z0v
 have ap:(s==[105,102])=false:=Ba W;by_cases X:s=[105,110]
 ·subst X;exact Z0v
 have aq:(s==[105,110])=false:=Ba X;by_cases aa:s=[116,104,101,110]
 ·subst aa;exact Z0v
 have ar:(s==[116,104,101,110])=false:=Ba aa;by_cases ab:s=[117,110,116,105,108]
 ·subst ab;exact Z0v
 have au:(s==[117,110,116,105,108])=false:=Ba ab;by_cases ac:s=[119,104,105,108,101]
 ·subst ac;exact Z0v
 have aw:(s==[119,104,105,108,101])=false:=Ba ac;have ad:DW s=false:=by
  unfold DW LD;simp only[List.contains_cons,List.contains_nil,Bool.or_false];simp only[DQ,F2,Cv,Fy,EA,BU,FN,FC,C7,Gr,I5,Oz,FZ,E8,DX,Dp,ae,af,ag,ah,ai,aj,ak,al,am,an,ao,ap,aq,ar,au,aw,Bool.or_false]
 have ax:=Z ad;clear ad;go_enter Tryz.func91,Tryz.ntmps91;go_wp2_with fail;go_ret;exact⟨Bq (a:=false) (by rw[ax.out]),rfl⟩
theorem Qo (rb:Nat) (T:List AX) (z:Value) (a:Nat) (d f x k:Int) (w:World) (h:Gl w rb T z a d 0 f):Calls Tryz.prog 73 #[.pointer (some ⟨rb,0,none⟩),.int .i64 x,.int .i64 k] w (fun e w'=>e=.returned (.tuple #[])∧Gl w' rb T z a d k x∧w.grownBy w' (some rb)):=by
 obtain⟨G,I,J,c3,c4⟩:=h.cells;have lb:=h.lb;have z3:=Y.frozen h.BD 3;have K:=Y.frozen h.BD 4;have F:=Z ((h.set 3 (.inr (.inl rfl)) k).set 4 (.inr (.inr rfl)) x);clear h;go_enter Tryz.func73,Tryz.ntmps73;go_wp2_with fail;refine bodyPost_end (results_none rfl _ _ _) rfl ⟨rfl,F.out,?_⟩;exact AM (AM (AB w (some rb)) (p:=⟨rb,3,none⟩) (.inl rfl) _) (p:=⟨rb,4,none⟩) (.inl rfl) _
theorem RR (rb:Nat) (T:List AX) (F:Value) (a d:Nat) (f:Int) (t:AX) (r:List AX) (w:World) (h:Gl w rb T F a d 0 f) (J:T.drop a=t::r) (ad:24<d) (ax:d≤26):Calls Tryz.prog 117 #[.pointer (some ⟨rb,0,none⟩)] w (fun e w'=>e=.returned (.tuple #[])∧(∃x,Gl w' rb T F a x 17 t.a)∧w.grownBy w' (some rb)):=by
 have ae:=Z (fun f x K (af:Gl K rb T F a d 0 f)=>Qo rb T F a d f x 17 K af);have ag:=Z h;obtain⟨G,L,M,c3,c4⟩:=h.cells;obtain⟨g,ah,ai,ay,az,rfl,aj,ak,N,O,W,X⟩:=h.DY;have lb:=h.lb;have al:=h.lt;have am:(0:Int)≤(a:Int)∧(a:Int)<((T.length:Nat):Int):=(by omega);have an:=h.tg.len;obtain⟨aa,ab⟩: ∃aa,T.length=aa:=⟨_,rfl⟩;have ao:=J.symm.trans N;injection ao with ap aq;subst ap aq;have q:decide ((24:Int)<(d:Int))=true:=At (by omega);have aA:(d:Int)≤26:=(by omega);have I:Hid (∀n:Nat,Gl (w.drewN n) rb T (.slice (some ⟨g,ah,none⟩) T.length ai) a d 0 f∧w.grownBy (w.drewN n) (some rb)):=Z (fun n=>⟨h.grown (As (AB w none) n),As (AB w _) n⟩);rw[ab]at G am aj an;clear h J N ab al ag ad;obtain⟨aB,aC,ar⟩:=t;simp only[]at O W X;go_enter Tryz.func117,Tryz.ntmps117;go_upto_region 1 with(fail);refine Bf 12 (by kernel_rfl) (by kernel_rfl) ?_;simp only[List.take_succ_cons,List.take_zero,List.drop_succ_cons,List.drop_zero];repeat(go_big_quiet_step (fail))
 refine wpQuiet_nil ?_;rintro _ ⟨nq,rfl⟩;clear G L M c3 c4 O W X ak lb;go_wp2_with fail;refine(ae.out f ar _ (I.out nq).1).mono ?_;rintro e aD ⟨rfl,z,ac⟩;have au:=Z (AJ (I.out nq).2 ac);clear ac;obtain⟨G,L,M,c3,c4⟩:=z.cells;have lb:=z.lb;have aE:=Y.frozen z.BD 2;have aw:=Z z;clear z I;go_wp2_with fail;refine bodyPost_end (results_none rfl _ _ _) rfl ⟨rfl,⟨_,aw.out.set 2 (.inl rfl) _⟩,AM au.out (p:=⟨rb,2,none⟩) (.inl rfl) _⟩
theorem Gl.YD {w:World} {rb:Nat} {T:List AX} {g h J a:Nat} {d e f:Int} {t u:AX} {r:List AX} (K:Gl w rb T (.slice (some ⟨g,h,none⟩) T.length J) a d e f) (G:T.drop a=t::u::r):a+1<T.length∧w.cell? ⟨g,h+(a+1)*3,none⟩=some (.int .i64 u.k)∧w.cell? ⟨g,h+(a+1)*3+1,none⟩=some (.string ⟨u.t.toArray⟩)∧w.cell? ⟨g,h+(a+1)*3+2,none⟩=some (.int .i64 u.a):=by
 have I:=congrArg List.length G;rw[Dq]at I;simp only[BP]at I;have z:a+1<T.length:=(by omega);obtain⟨X,aa,ab,e',_,_,L⟩:=NJ K.tok (by omega);injection e' with F ac ad;injection F with F;injection F with M N;subst M N;have O:T[a+1]=u:=by
  have:T[a+1]? =some u:=by
   have W:=congrArg (fun l=>l[1]?) G;simpa [List.getElem?_drop]using W
  rw[List.getElem?_eq_getElem z]at this;exact Option.some.inj this
 have:=L (a+1) z;rw[O]at this;exact⟨z,this⟩
theorem Gl.Wx {w:World} {rb:Nat} {T:List AX} {z:Value} {a:Nat} {d e f:Int} {t u:AX} {r:List AX} (h:Gl w rb T z a d e f) (F:T.drop a=t::u::r) (I:r≠[]):Gl (w.setCell ⟨rb,1,none⟩ (.int .i64 ((a:Int)+2))) rb T z (a+2) d e f∧T.drop (a+2)=r:=by
 have G:=congrArg List.length F;rw[Dq]at G;simp only[BP]at G;have K:0<r.length:=List.length_pos_iff.2 I;have J:z.ownBlock≠some rb:=fun e=>by have:=h.old rb e;omega
 refine⟨⟨?_,h.tok.Be (p:=⟨rb,1,none⟩) J _,by omega,h.tg,h.old⟩,?_⟩
 ·have:=Y.AV h.BD 1 (.int .i64 ((a:Int)+2));exact this
 ·rw[←List.drop_drop,F];rfl
theorem RE {z:EO} {F:Nat} {t u:AX} {q:List AX} (G:u.k=2∧u.t=[40]):IW z F (t::u::q) []=(AW DO q []).bind fun _ h ns=>if El (AG h)=true then(z F (AG h) ns).bind fun x h ns=>An { kind:=15,name:=t.t,kids:=[x] } h ns else Ay (AG h):=by
 have I:AW Bv (u::q) ([]:List V)=.ok () q []:=by
  unfold AW;have J:BR (u::q) Bv=true:=(show((u.k==2&&u.t==Bv)||Fl (u::q) Bv)=true by rw[G.1,G.2];rfl);rw[Ah J];rfl
 show(AW Bv (u::q) []).bind _=_;rw[I];rfl
end
section
open Go.RowKit Lx
theorem Tx {h:EO} {d:Nat} {ts:List AX} {ns:List V} (z:El ts=true):FE h d ts ns=h d ts ns:=Ah z
theorem On {h:EO} {d:Nat} {ts:List AX} {ns:List V} (z:El ts=false) (F:IV ts=false):FE h d ts ns=IT ts ns:=by
 unfold FE;rw[U (by rw[z];decide),U (by rw[F];decide)]
theorem TS {h:EO} {d:Nat} {ts:List AX} {ns:List V} (z:El ts=false) (F:IV ts=true):FE h d ts ns=Bw (IW h) d ts ns:=by
 unfold FE;rw[U (by rw[z];decide),Ah F]
theorem Pc {ms:List V} (z:KB ms) (F:ms≠[]) (h:List UInt8):Bc [ms] { kind:=15,name:=h } =ms++[{ kind:=15,name:=h,kids:=[(ms.length:Int)-1] }]:=by
 unfold Bc;rw[Fc z F];rfl
theorem VT {av:Nat→Prop} {w:World} (h:List UInt8):Bi av w (.slice none 0 0) (.slice none 0 0) (.slice none 0 0) (.slice none 0 0) (.slice none 0 0) { kind:=15,name:=h } :=
 (Dm (av:=av) (w:=w) 15).as rfl rfl rfl rfl rfl
theorem Ry {w w':World} {rb d:Nat} {T:List AX} {h:PR Int} {e:Ending} (K:F0 (Fe w) (XU w) rb T d w h e w'): ∃v ms z,e=.returned v∧Fe w w' ms v∧BS w' rb T z∧w.grownBy w' (some rb)∧((∃x L,z=.ok L d∧h=.ok x L ms)∨(∃a k,z=.er a k∧h=.bad a k)):=by
 cases h with
 |ok x ts ns=>
  obtain⟨v,F,G,I,J⟩:=K;exact⟨v,ns,_,F,G,I,J,.inl ⟨x,ts,rfl,rfl⟩⟩
 |bad a k=>
  obtain⟨v,F,⟨l,G⟩,I,J⟩:=K;exact⟨v,l,_,F,G,I,J,.inr ⟨a,k,rfl,rfl⟩⟩
theorem Z0w {P:Prop} (h:P:=by
 go_wp2_with fail;go_meet;exact⟨by rw[I.out],AB _ _⟩):P:=h
theorem Z0x {P:Prop} (h:P:=by
 unfold Ev at bp;simp only[]at bp;go_wp2_with fail;refine bp.out.mono ?_;rintro e bv ⟨rfl,b4,b5⟩;have c7:=Z b4;have c8:=Z (AJ a3.out b5);clear b4 b5;go_wp2_with fail;rw[c6.out];go_ret;exact⟨_,rfl,⟨_,_,_,rfl⟩,c7.out,c8.out⟩):P:=h
theorem Z0y {P:Prop} (h:P:=by
 clear bT bS ce;go_quiet (first|(go_at_call 116;exact Calls.quiet_of_same (cO.out _))|(go_at_call 91;exact Calls.quiet_of_same (cP.out _)));go_wp2_with fail;go_meet;exact⟨by rw[bl.out],As (AB bv none) _⟩):P:=h
theorem Z0z {P:Prop} (h:P:=by
 go_ret;exact⟨_,rfl,⟨_,_,_,rfl⟩,aR.out,aS.out⟩):P:=h
theorem Z0A {P:Prop} (h:P:=by
 clear am hs G;go_wp2_with fail;rw[bW.out];go_ret;exact⟨_,rfl,cR.out,aR.out,aS.out⟩):P:=h
theorem NM (n:Nat) (aK:EO) (ap:FF 5 aK) (df: ∀rb T d ts w,BS w rb T (.ok ts d)→ts.length≤n→El ts=true→Calls Tryz.prog 115 #[.pointer (some ⟨rb,0,none⟩)] w (F0 (Fe w) (XU w) rb T d w (aK d ts []))):Qw Sf 101 (FE aK) n:=by
 intro rb T d ts w h dg;have dh:=Z (fun M ts (af:BS M rb T (.ok ts d))=>Lb rb T ts d M af);have ef:=Z (fun aj a f t r M af aq aG bd=>RR rb T aj a d f t r M af aq aG bd);have cx:=Z (fun M aX s (af:BS M rb T aX)=>GJ rb T aX s M af);have di:=Z (fun M aX (af:BS M rb T aX)=>C9 rb T aX M af);have cy:=Z (fun M aX (af:BS M rb T aX)=>EE rb T aX M af);have dj:=Z (fun M ts (af:BS M rb T (.ok ts d))=>Mw rb T ts d M af);have dk:=Z (fun s M h=>JN s M h);have dl:=Z (fun s M=>KK s M);have dm:=Z (fun d ts M af aq aG=>df rb T d ts M af aq aG);have dn:=Z ap;have dp:=Z (fun ps dq eg M (af:w.heap.size≤M.heap.size) eh ei ej bH=>Fg (low w) ps { kind:=15,name:=dq } eg _ _ _ _ M (fun k hk=>DP hk af) eh (VT dq) rfl ei ej bH);unfold Qu at dh cx di cy;unfold sv at dk dl cx;have eZ:=Z h.lb;have bI:=Z h.Aj;have dr:=Z dg;have ds:=Z h;obtain⟨R,cz⟩: ∃R,FE aK d ts []=R:=⟨_,rfl⟩;have b9:=Z cz;show Calls Tryz.prog 101 #[.pointer (some ⟨rb,0,none⟩)] w (F0 (Fe w) Sf rb T d w (FE aK d ts []));rw[cz];obtain⟨t,r,rfl⟩:=h.Aj.1.ne;clear cz h dg df ap;have dt:=Z (bI.out.2.2.1 t (List.mem_cons_self ..)).1;obtain⟨J,z,ab⟩:=t;simp only[]at dt;go_enter Tryz.func101,Tryz.ntmps101;obtain⟨aj,a,cA,h,ap,aL⟩:=ds.out;obtain⟨ad,ag,au,c3,c4⟩:=h.cells;obtain⟨g,K,aM,du,bJ,rfl,aN,G,aH,aw,ax,ay⟩:=h.DY;have lb:=h.lb;have bK:=h.lt;have aO:(0:Int)≤(a:Int)∧(a:Int)<((T.length:Nat):Int):=(by omega);have aP:=h.tg.len;obtain⟨LT,aI⟩: ∃LT,T.length=LT:=⟨_,rfl⟩;have be:(a:Int)≤500:=(by omega);have dv:=Z h;have cB:=Z (A8 ap aL);have bL:=ap.symm.trans aH;injection bL with bM bN;subst bM bN;rw[aI]at ad aO aN aP;have aY:=Y.frozen h.BD 1;clear h ap aL aH aI bK;simp only[]at aw ax ay;go_upto_region 3 with(fail);have aQ:Hid (∀F:World,w.grownBy F none→(F.cell? ⟨rb,0,none⟩=some (.slice (some ⟨g,K,none⟩) LT aM)∧F.cell? ⟨rb,1,none⟩=some (.int .i64 a)∧F.cell? ⟨g,K+a*3,none⟩=some (.int .i64 J)∧F.cell? ⟨g,K+a*3+1,none⟩=some (.string ⟨z.toArray⟩)∧F.cell? ⟨g,K+a*3+2,none⟩=some (.int .i64 ab))):=
  Z (fun F X=>⟨AH X lb ad,AH X lb ag,AH X G aw,AH X G ax,AH X G ay⟩)
 go_region_held3 (fun F=>F.cell? ⟨rb,0,none⟩=some (.slice (some ⟨g,K,none⟩) LT aM)∧F.cell? ⟨rb,1,none⟩=some (.int .i64 a)∧F.cell? ⟨g,K+a*3,none⟩=some (.int .i64 J)∧F.cell? ⟨g,K+a*3+1,none⟩=some (.string ⟨z.toArray⟩)∧F.cell? ⟨g,K+a*3+2,none⟩=some (.int .i64 ab))
  (first|go_keep|exact aQ.out _ (by repeat' (first|(with_reducible exact AB _ _)|(with_reducible refine Af ?_ ?_ _)|(with_reducible refine AI ?_ G)|(with_reducible refine Ag ?_)|(with_reducible refine AF ?_ _)|omega|(simp;done))))
  (fail)
 have ae:=Ag (AF (AB w none) (.cells #[.int .i64 J,.string ⟨z.toArray⟩,.int .i64 ab] 69));have bO:=Z (show Y (w.alloc (.cells #[.int .i64 J,.string ⟨z.toArray⟩,.int .i64 ab] 69)).drew w.heap.size 69 #[.int .i64 J,.string ⟨z.toArray⟩,.int .i64 ab]from Y.new w 69 _);have bf:=Z (ds.out.grown ae);have dw:=Z ae;generalize (w.alloc (.cells #[.int .i64 J,.string ⟨z.toArray⟩,.int .i64 ab] 69)).drew=ah,w.heap.size=a7 at bO bf dw⊢;clear aQ ae;clear ad ag au c3 c4 aw ax ay G lb aO aP be aN aY;have aZ:ah.cell? ⟨a7,0,none⟩=some (.int .i64 J):=Y.cell bO.out 0;have az:ah.cell? ⟨a7,1,none⟩=some (.string ⟨z.toArray⟩):=Y.cell bO.out 1;have aA:=Y.lt bO.out;obtain⟨aB,dx⟩: ∃aB,FG ⟨J,z,ab⟩=aB:=⟨_,rfl⟩;have bg:=Z dx;obtain⟨c4,dy⟩: ∃c,((J==2)&&(z==[40]))=c:=⟨_,rfl⟩;have bP:=Z dy;clear dx dy;go_upto_region 4 with(fail);go_cut [4] (fun cC ar=>cC=.bool c4∧ah.grownBy ar none);case first=>
  as_aux_lemma=>
   by_cases al:J=2
   ·subst al;by_cases O:z=[40]
    ·subst O;have I:=Z (show c4=true from bP.out.symm.trans (by decide));exact Z0w
    ·have bh:(z==[40])=false:=Ba O;have I:=Z (show c4=false from bP.out.symm.trans (by rw[bh];decide));clear O;exact Z0w
   ·have cD:((J:Int)==2)=false:=(by rw[beq_eq_false_iff_ne];omega);have I:=Z (show c4=false from bP.out.symm.trans (by rw[show(J==2)=false from Ba al];rfl));clear al;exact Z0w
 case rest=>
 obtain⟨rfl,b'⟩:=hcut;have ca:=Z (Y.grown bO.out b' (by simp));have ek:=Z (bf.out.grown b');have el:=Z (AI dw.out b');clear b' aZ az aA;obtain⟨cE,em⟩: ∃x,x=wc:=⟨_,rfl⟩;subst em;have aZ:cE.cell? ⟨a7,0,none⟩=some (.int .i64 J):=Y.cell ca.out 0;have az:cE.cell? ⟨a7,1,none⟩=some (.string ⟨z.toArray⟩):=Y.cell ca.out 1;have aA:=Y.lt ca.out;obtain⟨dz,cb⟩: ∃b,((J:Int)==1)=b:=⟨_,rfl⟩;have dA:=Z (show(J==1)=dz by
  rw[←cb];by_cases aC:J=1
  ·subst aC;rfl
  ·rw[Ba aC];symm;rw[beq_eq_false_iff_ne];omega)
 go_upto_if 34 with(fail);go_cut [4] (fun cC ar=>cC=.bool aB∧cE.grownBy ar none);case first=>
  as_aux_lemma=>
   cases dz with
   |false=>
    have I:=Z (show aB=c4 from by
     rw[←bg.out,←bP.out];unfold FG;simp only[];rw[dA.out];show((J==2&&z==[40])||(false&&_))=_;rw[Bool.false_and,Bool.or_false])
    clear cb;exact Z0w
   |true=>
    have cF:J=1:=(by have:=dA.out;simpa using this);have en:c4=false:=(by rw[←bP.out,cF];rfl);have N:aB=FH.contains z:=(by rw[←bg.out];unfold FG;simp only[];rw[cF];rfl);subst en;clear cF cb;by_cases bi:z=[123]
    ·subst bi;have I:=Z (show aB=true from N.trans (by decide));clear N;exact Z0w
    have cG:(z==[123])=false:=Ba bi;by_cases O:z=[105,102]
    ·subst O;have I:=Z (show aB=true from N.trans (by decide));clear N;exact Z0w
    have cH:(z==[105,102])=false:=Ba O;by_cases ai:z=[119,104,105,108,101]
    ·subst ai;have I:=Z (show aB=true from N.trans (by decide));clear N;exact Z0w
    have cI:(z==[119,104,105,108,101])=false:=Ba ai;by_cases aJ:z=[117,110,116,105,108]
    ·subst aJ;have I:=Z (show aB=true from N.trans (by decide));clear N;exact Z0w
    have cJ:(z==[117,110,116,105,108])=false:=Ba aJ;by_cases bj:z=[102,111,114]
    ·subst bj;have I:=Z (show aB=true from N.trans (by decide));clear N;exact Z0w
    have cK:(z==[102,111,114])=false:=Ba bj;by_cases bk:z=[99,97,115,101]
    ·subst bk;have I:=Z (show aB=true from N.trans (by decide));clear N;exact Z0w
    have cL:(z==[99,97,115,101])=false:=Ba bk;have I:=Z (show aB=false from N.trans (by unfold FH;simp only[List.contains_cons,List.contains_nil,F2,Oz,Dp,DX,I5,Fy,cG,cH,cI,cJ,cK,cL,Bool.or_false]));clear N bi O ai aJ bj bk;exact Z0w
 case rest=>
 obtain⟨rfl,a0⟩:=hcut;have cc:=Z (Y.grown ca.out a0 (by simp));have dB:=Z (ek.out.grown a0);have cM:=Z (AI el.out a0);clear a0 aZ az aA cb;cases aB with
 |true=>
  have eo:=Z (dm.out d _ wc dB.out dr.out bg.out);have a8:=Z (show R=aK d (⟨J,z,ab⟩::r) []from b9.out.symm.trans (Tx bg.out));go_wp2_with fail;refine eo.out.mono ?_;intro e a1 bQ;obtain⟨v,ms,aX,rfl,am,hs,G,a9⟩:=Ry bQ;obtain⟨an,ao,rfl⟩:=am.form;have bl:=Z (am.low cM.out.size);have bt:=Z hs;have bm:=Z (AJ (Bp cM.out) G);have cN:=Z a9;clear bQ am hs G a9;go_wp2_with fail;rw[a8.out];go_ret;rcases cN.out with⟨x,aD,O,ai⟩|⟨a,k,O,ai⟩
  ·rw[ai];subst O;exact⟨_,rfl,bl.out,bt.out,bm.out⟩
  ·rw[ai];subst O;exact⟨_,rfl,⟨_,_,_,rfl⟩,bt.out,bm.out⟩
 |false=>
  obtain⟨bR,dC⟩: ∃b,(CB ⟨J,z,ab⟩&&!DW z)=b:=⟨_,rfl⟩;have bu:=Z dC;clear dC;have aZ:wc.cell? ⟨a7,0,none⟩=some (.int .i64 J):=Y.cell cc.out 0;have az:wc.cell? ⟨a7,1,none⟩=some (.string ⟨z.toArray⟩):=Y.cell cc.out 1;have aA:=Y.lt cc.out;obtain⟨bv,ep⟩: ∃x,x=wc:=⟨_,rfl⟩;subst ep;go_upto_region 16 with(fail);go_cut [64] (fun eq ar=>eq=.bool bR∧bv.grownBy ar none);case first=>
   as_aux_lemma=>
    by_cases aC:J=1
    ·subst aC;have aq:=sz z;obtain⟨cd,bS⟩: ∃k,GU z=k:=⟨_,rfl⟩;obtain⟨bJ,ce⟩: ∃k,DW z=k:=⟨_,rfl⟩;have cO:=Z (fun M=>dk.out z M (by have:=dt.out;omega));have cP:=Z (fun M=>dl.out z M);rw[bS]at cO;rw[ce]at cP;by_cases bT:cd=z.length
     ·have es:((cd:Int)==(z.length:Int))=true:=(by rw[bT];simp);have bl:=Z (show bR=!bJ by
       rw[←bu.out,←ce];unfold CB;simp only[bS,bT];simp)
      exact Z0y
     ·have es:((cd:Int)==(z.length:Int))=false:=(by rw[beq_eq_false_iff_ne];omega);have bl:=Z (show bR=false by
       rw[←bu.out];unfold CB;simp only[bS];rw[show(cd==z.length)=false from Ba bT];simp)
      exact Z0y
    ·have bh:((J:Int)==1)=false:=(by rw[beq_eq_false_iff_ne];omega);have bl:=Z (show bR=false by
      rw[←bu.out];unfold CB;rw[show(J==1)=false from Ba aC];rfl)
     clear aC;go_quiet (fail);go_wp2_with fail;go_meet;exact⟨by rw[bl.out],As (AB bv none) _⟩
  case rest=>
  obtain⟨rfl,cf⟩:=hcut;have et:=Z (Y.grown cc.out cf (by simp));have bt:=Z (dB.out.grown cf);have bm:=Z (AI cM.out cf);clear cf aZ az aA;obtain⟨a1,eu⟩: ∃x,x=wc:=⟨_,rfl⟩;subst eu;cases bR with
  |false=>
   have bU:=Z (dj.out a1 _ bt.out);have a8:=Z (show R=IT (⟨J,z,ab⟩::r) []from b9.out.symm.trans (On bg.out (by have bV:=bu.out;cases r with|nil=>rfl|cons u q=>show(CB _&&!DW _&&_&&_)=false;rw[show(CB (⟨J,z,ab⟩:AX)&&!DW z)=false from bV];rfl)));obtain⟨cQ,bn⟩: ∃P,IT (⟨J,z,ab⟩::r) []=P:=⟨_,rfl⟩;rw[bn]at bU;have bW:=Z (a8.out.trans bn);clear bn;go_wp2_with fail;refine bU.out.mono ?_;cases cQ with
   |bad bw bo=>
    rintro e bx ⟨v,rfl,⟨an,ao,ev,rfl⟩,hs,G⟩;have aR:=Z hs;have aS:=Z (AJ (Bp bm.out) G);clear hs G;go_wp2_with fail;rw[bW.out];exact Z0z
   |ok x aD ms=>
    rintro e bx ⟨v,rfl,am,hs,G⟩;obtain⟨an,ao,rfl⟩:=am.form;have cR:=Z (am.low (bm.out).size);have aR:=Z hs;have aS:=Z (AJ (Bp bm.out) G);exact Z0A
  |true=>
   have dD:=Z (show J=1 by have bV:=bu.out;unfold CB at bV;simp at bV;exact bV.1.1);obtain⟨u,q,rfl⟩:=(bI.out.1.tail (show J≠4 by rw[dD.out];decide)).ne;obtain⟨W,ac,aE⟩:=u;obtain⟨aj,a,cA,h,ap,aL⟩:=bt.out;obtain⟨ad,ag,au,c3,c4⟩:=h.cells;obtain⟨g,K,aM,du,bJ,rfl,aN,G,aH,aw,ax,ay⟩:=h.DY;have lb:=h.lb;have bK:=h.lt;have aO:(0:Int)≤(a:Int)∧(a:Int)<((T.length:Nat):Int):=(by omega);have aP:=h.tg.len;obtain⟨LT,aI⟩: ∃LT,T.length=LT:=⟨_,rfl⟩;have be:(a:Int)≤500:=(by omega);have dv:=Z h;have cB:=Z (A8 ap aL);have bL:=ap.symm.trans aH;injection bL with bM bN;subst bM bN;rw[aI]at ad aO aN aP;have aY:=Y.frozen h.BD 1;obtain⟨dE,n0,cg,ch⟩:=h.YD cB.out.1;simp only[]at n0 cg ch;obtain⟨aV,dF⟩: ∃x:Nat,a+1=x:=⟨_,rfl⟩;rw[dF]at n0 cg ch dE;have dG:(0:Int)≤(aV:Int)∧(aV:Int)<((T.length:Nat):Int):=(by omega);have ew:IntKind.i64.wrap ((a:Int)+1)=(aV:Int):=(by rw[IntKind.wrap_i64];omega);have ex:(aV:Int)≤501:=(by omega);rw[aI]at dG;clear dF;clear h ap aL aH aI bK dE;go_upto_region 17 with(fail);have aQ:Hid (∀F:World,a1.grownBy F none→(F.cell? ⟨rb,0,none⟩=some (.slice (some ⟨g,K,none⟩) LT aM)∧F.cell? ⟨rb,1,none⟩=some (.int .i64 a)∧F.cell? ⟨g,K+aV*3,none⟩=some (.int .i64 W)∧F.cell? ⟨g,K+aV*3+1,none⟩=some (.string ⟨ac.toArray⟩)∧F.cell? ⟨g,K+aV*3+2,none⟩=some (.int .i64 aE))):=
    Z (fun F X=>⟨AH X lb ad,AH X lb ag,AH X G n0,AH X G cg,AH X G ch⟩)
   go_region_held3 (fun F=>F.cell? ⟨rb,0,none⟩=some (.slice (some ⟨g,K,none⟩) LT aM)∧F.cell? ⟨rb,1,none⟩=some (.int .i64 a)∧F.cell? ⟨g,K+aV*3,none⟩=some (.int .i64 W)∧F.cell? ⟨g,K+aV*3+1,none⟩=some (.string ⟨ac.toArray⟩)∧F.cell? ⟨g,K+aV*3+2,none⟩=some (.int .i64 aE))
    (first|go_keep|exact aQ.out _ (by repeat' (first|(with_reducible exact AB _ _)|(with_reducible refine Af ?_ ?_ _)|(with_reducible refine AI ?_ G)|(with_reducible refine Ag ?_)|(with_reducible refine AF ?_ _)|omega|(simp;done))))
    (fail)
   have ae:=Ag (AF (AB a1 none) (.cells #[.int .i64 W,.string ⟨ac.toArray⟩,.int .i64 aE] 69));have ci:=Z (show Y (a1.alloc (.cells #[.int .i64 W,.string ⟨ac.toArray⟩,.int .i64 aE] 69)).drew a1.heap.size 69 #[.int .i64 W,.string ⟨ac.toArray⟩,.int .i64 aE]from Y.new a1 69 _);have dH:=Z (bt.out.grown ae);have dI:=Z (Y.grown et.out ae (by simp));have dJ:=Z (AI bm.out ae);generalize (a1.alloc (.cells #[.int .i64 W,.string ⟨ac.toArray⟩,.int .i64 aE] 69)).drew=cS,a1.heap.size=dK at ci dH dI dJ⊢;clear aQ ae n0 cg ch dG ew ex;clear ad ag au c3 c4 aw ax ay G lb aO aP be aN aY;have aZ:cS.cell? ⟨dK,0,none⟩=some (.int .i64 W):=Y.cell ci.out 0;have az:cS.cell? ⟨dK,1,none⟩=some (.string ⟨ac.toArray⟩):=Y.cell ci.out 1;have aA:=Y.lt ci.out;obtain⟨bX,dL⟩: ∃c,((W==2)&&(ac==[40]))=c:=⟨_,rfl⟩;have bz:=Z dL;clear dL;go_upto_region 18 with(fail);go_cut [83] (fun ey ar=>ey=.bool bX∧cS.grownBy ar none);case first=>
    as_aux_lemma=>
     by_cases al:W=2
     ·subst al;by_cases O:ac=[40]
      ·subst O;have I:=Z (show bX=true from bz.out.symm.trans (by decide));exact Z0w
      ·have bh:(ac==[40])=false:=Ba O;have I:=Z (show bX=false from bz.out.symm.trans (by rw[bh];decide));clear O;exact Z0w
     ·have cD:((W:Int)==2)=false:=(by rw[beq_eq_false_iff_ne];omega);have I:=Z (show bX=false from bz.out.symm.trans (by rw[show(W==2)=false from Ba al];rfl));clear al;exact Z0w
   case rest=>
   obtain⟨rfl,cj⟩:=hcut;have cT:=Z (Y.grown dI.out cj (by simp));have bY:=Z (dH.out.grown cj);have ck:=Z (AI dJ.out cj);clear cj aZ az aA;obtain⟨cl,ez⟩: ∃x,x=wc:=⟨_,rfl⟩;subst ez;cases bX with
   |false=>
    have bU:=Z (dj.out cl _ bY.out);have a8:=Z (show R=IT (⟨J,z,ab⟩::⟨W,ac,aE⟩::q) []from b9.out.symm.trans (On bg.out (by show(CB _&&!DW _&&W==2&&ac==Bv)=false;rw[Bool.and_assoc,show(W==2&&ac==Bv)=false from bz.out,Bool.and_false])));obtain⟨cQ,bn⟩: ∃P,IT (⟨J,z,ab⟩::⟨W,ac,aE⟩::q) []=P:=⟨_,rfl⟩;rw[bn]at bU;have bW:=Z (a8.out.trans bn);clear bn;go_wp2_with fail;refine bU.out.mono ?_;cases cQ with
    |bad bw bo=>
     rintro e bx ⟨v,rfl,⟨an,ao,ev,rfl⟩,hs,G⟩;have aR:=Z hs;have aS:=Z (AJ (Bp ck.out) G);clear hs G;go_wp2_with fail;rw[bW.out];exact Z0z
    |ok x aD ms=>
     rintro e bx ⟨v,rfl,am,hs,G⟩;obtain⟨an,ao,rfl⟩:=am.form;have cR:=Z (am.low (ck.out).size);have aR:=Z hs;have aS:=Z (AJ (Bp ck.out) G);exact Z0A
   |true=>
    have dM:=Z (show W=2∧ac=[40] by have:=bz.out;rw[Bool.and_eq_true]at this;simpa using this);have eA:=Z (show IV (⟨J,z,ab⟩::⟨W,ac,aE⟩::q)=true by show(CB _&&!DW _&&W==2&&ac==Bv)=true;rw[Bool.and_assoc,show(W==2&&ac==Bv)=true from bz.out,Bool.and_true];exact bu.out);have a8:=Z (show R=Bw (IW aK) d (⟨J,z,ab⟩::⟨W,ac,aE⟩::q) []from b9.out.symm.trans (TS bg.out eA.out));have cU:=Z (show Good q∧Wl q∧q≠[] by
     have aq:=bI.out.1.tail (show J≠4 by rw[dD.out];decide);have aG:=aq.tail (show W≠4 by rw[dM.out.1];decide);exact⟨aG,bI.out.2.1.tail.tail,fun e=>by obtain⟨_,_,bd⟩:=aG.ne;rw[e]at bd;cases bd⟩)
    have dN:=Z (show q.length≤n∧10*q.length≤5000 by have aq:=dr.out;have aG:=bI.out.2.2.2.1;simp only[BP]at aq aG;omega);go_upto_region 19 with(fail);go_cut [] (fun ar=> ∃(aj:Value) (aW:Nat) (a' cm cn:Int),Gl ar rb T aj aW a' cm cn∧T.drop aW=⟨J,z,ab⟩::⟨W,ac,aE⟩::q∧((cm=17∧cn=ab∧24<d)∨(cm=0∧a'=((d+1:Nat):Int)∧d≤24))∧cl.grownBy ar (some rb));case first=>
     as_aux_lemma=>
      by_cases a2:24<d
      ·obtain⟨aj,a,f,h,ba,bA⟩:=bY.out;have co:=Z (ef.out aj a f _ _ cl h ba a2 bA);have cp:=Z (A8 ba a2);clear h ba bA a2;go_wp2_with fail;refine co.out.mono ?_;rintro e ar ⟨rfl,⟨x,aq⟩,bZ⟩;have cV:=Z aq;have cW:=Z bZ;clear aq bZ;go_wp2_with fail;go_meet;exact⟨_,_,_,_,_,cV.out,cp.out.1,.inl ⟨rfl,rfl,cp.out.2⟩,cW.out⟩
      ·have co:=Z (dh.out cl _ bY.out);rw[show J9 (.ok (⟨J,z,ab⟩::⟨W,ac,aE⟩::q) d)=.ok (⟨J,z,ab⟩::⟨W,ac,aE⟩::q) (d+1)from U a2]at co;have cp:=Z a2;clear a2;go_wp2_with fail;refine co.out.mono ?_;rintro e ar ⟨rfl,aq,bZ⟩;have cV:=Z aq;have cW:=Z bZ;clear aq bZ;go_wp2_with fail;go_meet;obtain⟨aj,a,f,h,ba,bA⟩:=cV.out;exact⟨_,_,_,_,_,h,ba,.inr ⟨rfl,rfl,by have:=cp.out;omega⟩,cW.out⟩
    case rest=>
    obtain⟨aj,aW,a',cm,cn,h,ba,a9,G⟩:=hcut;obtain⟨ad,ag,au,c3,c4⟩:=h.cells;have lb:=h.lb;have aY:=Y.frozen h.BD 1;have eB:(aW:Int)≤500:=(by have:=h.lt;have:=h.tg.len;omega);have cq:=h.Wx ba cU.out.2.2;obtain⟨bB,cr⟩: ∃x,d+1=x:=⟨_,rfl⟩;obtain⟨b0,dO,dP⟩: ∃b0:DS,BS (wc.setCell ⟨rb,1,none⟩ (.int .i64 ((aW:Int)+2))) rb T b0∧Cg R bB n 0 (fun aD=>(AW DO aD []).bind fun _ ts ns=>if El (AG ts)=true then(aK bB (AG ts) ns).bind fun x ts ns=>An { kind:=15,name:=z,kids:=[x] } ts ns else Ay (AG ts)) b0:=by
     rcases a9 with⟨rfl,rfl,a2⟩|⟨rfl,rfl,a2⟩
     ·refine⟨.er ab 17,⟨aj,aW+2,a',cq.1,by decide⟩,?_⟩;exact(show R=.bad ab 17 by rw[a8.out];unfold Bw;rw[Ah a2])
     ·refine⟨.ok q bB,⟨aj,aW+2,cn,by rw[←cr];exact cq.1,cq.2,by omega⟩,rfl,?_,by have:=dN.out.2;omega,dN.out.1,cU.out.1,cU.out.2.1⟩;rw[a8.out,←cr];unfold Bw;rw[U (by omega),RE dM.out]
    have dQ:=Z cr;have cX:=Z dO;have eC:=Z dP;have cY:=Z (Y.Be (Y.grown cT.out G (fun e=>by injection e with e;subst e;exact Ai (cT.out.AN.uniq bY.out.AN) (by decide))) (p:=⟨rb,1,none⟩) (fun e=>by subst e;exact Ai (cT.out.AN.uniq bY.out.AN) (by decide)) (.int .i64 ((aW:Int)+2)));have dR:=Z (AM (AJ (Bp ck.out) G) (p:=⟨rb,1,none⟩) (.inl rfl) (.int .i64 ((aW:Int)+2)));clear h ba a9 G cq cr dO dP;go_upto_region 21 with(fail);generalize wc.setCell ⟨rb,1,none⟩ (.int .i64 ((aW:Int)+2))=eD at cX cY dR⊢;clear ad ag au c3 c4 lb aY eB;have cZ:=Z (cx.out eD b0 DO cX.out);have dS:=Z (Cg.Hj eC.out);obtain⟨c0,dT⟩: ∃s,CG DO b0=s:=⟨_,rfl⟩;rw[dT]at cZ dS;unfold DO at cZ;clear dT;go_wp2_with fail;refine cZ.out.mono ?_;rintro e eE ⟨rfl,aG,c1⟩;have eF:=Z aG;have dU:=Z (Y.grown cY.out c1 (fun e=>by injection e with e;subst e;exact Ai (cY.out.AN.uniq cX.out.AN) (by decide)));have eG:=Z (AJ dR.out c1);have dV:=Z (di.out eE c0 aG);have c2:=Z (show Cg R bB n 0 (fun aD=>if El aD=true then(aK bB aD []).bind fun x ts ns=>An { kind:=15,name:=z,kids:=[x] } ts ns else Ay aD) (B3 c0)from Cg.breaks (C:=fun aD=>if El aD=true then(aK bB aD []).bind fun x ts ns=>An { kind:=15,name:=z,kids:=[x] } ts ns else Ay aD) dS.out);obtain⟨eH,dW⟩: ∃s,B3 c0=s:=⟨_,rfl⟩;rw[dW]at dV c2;clear aG c1 dW;go_wp2_with fail;refine dV.out.mono ?_;rintro e ah ⟨rfl,bd,c5⟩;have bf:=Z bd;have eI:=Z (Y.grown dU.out c5 (fun e=>by injection e with e;subst e;exact Ai (dU.out.AN.uniq eF.out.AN) (by decide)));have dX:=Z (AJ eG.out c5);clear bd c5;cases eH with
    |er bw bo=>
     obtain⟨aj,a,a',h,b1⟩:=bf.out;obtain⟨ad,ag,au,c3,c4⟩:=h.cells;obtain⟨g,K,aM,v,bJ,rfl,aN,G,aH,aw,ax,ay⟩:=h.DY;have lb:=h.lb;have aO:(0:Int)≤(a:Int)∧(a:Int)<((T.length:Nat):Int):=(by have:=h.lt;omega);have aP:=h.tg.len;obtain⟨LT,aI⟩: ∃LT,T.length=LT:=⟨_,rfl⟩;have be:(a:Int)≤500:=(by have:=h.lt;omega);have aY:=Y.frozen h.BD 1;rw[aI]at ad aO aN aP;have e0:(bo==0)=false:=Ba b1;clear h aH aI b1;obtain⟨aa,L,ak⟩:=v;simp only[]at aw ax ay;go_upto_region 23 with(fail);have aQ:Hid (∀F:World,ah.grownBy F none→(F.cell? ⟨rb,0,none⟩=some (.slice (some ⟨g,K,none⟩) LT aM)∧F.cell? ⟨rb,1,none⟩=some (.int .i64 a)∧F.cell? ⟨g,K+a*3,none⟩=some (.int .i64 aa)∧F.cell? ⟨g,K+a*3+1,none⟩=some (.string ⟨L.toArray⟩)∧F.cell? ⟨g,K+a*3+2,none⟩=some (.int .i64 ak))):=
      Z (fun F X=>⟨AH X lb ad,AH X lb ag,AH X G aw,AH X G ax,AH X G ay⟩)
     go_region_held3 (fun F=>F.cell? ⟨rb,0,none⟩=some (.slice (some ⟨g,K,none⟩) LT aM)∧F.cell? ⟨rb,1,none⟩=some (.int .i64 a)∧F.cell? ⟨g,K+a*3,none⟩=some (.int .i64 aa)∧F.cell? ⟨g,K+a*3+1,none⟩=some (.string ⟨L.toArray⟩)∧F.cell? ⟨g,K+a*3+2,none⟩=some (.int .i64 ak))
      (first|go_keep|exact aQ.out _ (by repeat' (first|(with_reducible exact AB _ _)|(with_reducible refine Af ?_ ?_ _)|(with_reducible refine AI ?_ G)|(with_reducible refine Ag ?_)|(with_reducible refine AF ?_ _)|omega|(simp;done))))
      (fail)
     have ae:=Ag (AF (AB ah none) (.cells #[.int .i64 aa,.string ⟨L.toArray⟩,.int .i64 ak] 69));have bC:=Z (show Y (ah.alloc (.cells #[.int .i64 aa,.string ⟨L.toArray⟩,.int .i64 ak] 69)).drew ah.heap.size 69 #[.int .i64 aa,.string ⟨L.toArray⟩,.int .i64 ak]from Y.new ah 69 _);have b2:=Z (bf.out.grown ae);have a3:=Z (AJ dX.out (Bp ae));have aJ:=AH ae lb c3;have cs:=DP lb ae.size;generalize (ah.alloc (.cells #[.int .i64 aa,.string ⟨L.toArray⟩,.int .i64 ak] 69)).drew=b3 at bC b2 a3 aJ cs⊢;clear aQ ae;clear ad ag au c3 c4 aw ax ay G lb aO aP be aN aY;have bp:=Z (cy.out b3 _ b2.out);have c6:=Z (show R=.bad bw bo from c2.out);exact Z0x
    |ok aD bb=>
     obtain⟨aH,dY,dZ,d0,c9,eJ⟩:=c2.out;subst aH;obtain⟨v,eK,rfl⟩:=c9.ne;have d1:=Z dY;have ct:=Z (A8 d0 (A8 c9 dZ));clear dY dZ d0 c9 eJ;obtain⟨aa,L,ak⟩:=v;obtain⟨aj,a,cA,h,ap,aL⟩:=bf.out;obtain⟨ad,ag,au,c3,c4⟩:=h.cells;obtain⟨g,K,aM,du,bJ,rfl,aN,G,aH,aw,ax,ay⟩:=h.DY;have lb:=h.lb;have bK:=h.lt;have aO:(0:Int)≤(a:Int)∧(a:Int)<((T.length:Nat):Int):=(by omega);have aP:=h.tg.len;obtain⟨LT,aI⟩: ∃LT,T.length=LT:=⟨_,rfl⟩;have be:(a:Int)≤500:=(by omega);have dv:=Z h;have cB:=Z (A8 ap aL);have bL:=ap.symm.trans aH;injection bL with bM bN;subst bM bN;rw[aI]at ad aO aN aP;have aY:=Y.frozen h.BD 1;clear h ap aL aH aI bK;simp only[]at aw ax ay;go_upto_region 23 with(fail);have aQ:Hid (∀F:World,ah.grownBy F none→(F.cell? ⟨rb,0,none⟩=some (.slice (some ⟨g,K,none⟩) LT aM)∧F.cell? ⟨rb,1,none⟩=some (.int .i64 a)∧F.cell? ⟨g,K+a*3,none⟩=some (.int .i64 aa)∧F.cell? ⟨g,K+a*3+1,none⟩=some (.string ⟨L.toArray⟩)∧F.cell? ⟨g,K+a*3+2,none⟩=some (.int .i64 ak))):=
      Z (fun F X=>⟨AH X lb ad,AH X lb ag,AH X G aw,AH X G ax,AH X G ay⟩)
     go_region_held3 (fun F=>F.cell? ⟨rb,0,none⟩=some (.slice (some ⟨g,K,none⟩) LT aM)∧F.cell? ⟨rb,1,none⟩=some (.int .i64 a)∧F.cell? ⟨g,K+a*3,none⟩=some (.int .i64 aa)∧F.cell? ⟨g,K+a*3+1,none⟩=some (.string ⟨L.toArray⟩)∧F.cell? ⟨g,K+a*3+2,none⟩=some (.int .i64 ak))
      (first|go_keep|exact aQ.out _ (by repeat' (first|(with_reducible exact AB _ _)|(with_reducible refine Af ?_ ?_ _)|(with_reducible refine AI ?_ G)|(with_reducible refine Ag ?_)|(with_reducible refine AF ?_ _)|omega|(simp;done))))
      (fail)
     have ae:=Ag (AF (AB ah none) (.cells #[.int .i64 aa,.string ⟨L.toArray⟩,.int .i64 ak] 69));have bC:=Z (show Y (ah.alloc (.cells #[.int .i64 aa,.string ⟨L.toArray⟩,.int .i64 ak] 69)).drew ah.heap.size 69 #[.int .i64 aa,.string ⟨L.toArray⟩,.int .i64 ak]from Y.new ah 69 _);have b2:=Z (bf.out.grown ae);have a3:=Z (AJ dX.out (Bp ae));have d2:=Z (Y.grown eI.out ae (by simp));have aJ:=AH ae lb c3;have cs:=DP lb ae.size;generalize (ah.alloc (.cells #[.int .i64 aa,.string ⟨L.toArray⟩,.int .i64 ak] 69)).drew=b3,ah.heap.size=d3 at bC b2 a3 d2 aJ cs⊢;clear aQ ae;clear ad ag au c3 c4 aw ax ay G lb aO aP be aN aY;have aZ:b3.cell? ⟨d3,0,none⟩=some (.int .i64 aa):=Y.cell bC.out 0;have az:b3.cell? ⟨d3,1,none⟩=some (.string ⟨L.toArray⟩):=Y.cell bC.out 1;have aA:=Y.lt bC.out;obtain⟨aF,d4⟩: ∃c,FG ⟨aa,L,ak⟩=c:=⟨_,rfl⟩;have bq:=Z d4;clear d4;go_upto_region 24 with(fail);go_cut [7] (fun eL ar=>eL=.bool aF∧b3.grownBy ar none);case first=>
      as_aux_lemma=>
       by_cases al:aa=2
       ·subst al;by_cases O:L=[40]
        ·subst O;have I:=Z (show aF=true from bq.out.symm.trans rfl);exact Z0w
        ·have bh:(L==[40])=false:=Ba O;have I:=Z (show aF=false from bq.out.symm.trans (by show((true&&L==Bv)||(false&&_))=false;rw[show(L==Bv)=false from bh];rfl));clear O;exact Z0w
       ·have cD:((aa:Int)==2)=false:=(by rw[beq_eq_false_iff_ne];omega);by_cases aC:aa=1
        ·subst aC;have N:aF=FH.contains L:=(by rw[←bq.out];rfl);clear al cD;by_cases bi:L=[123]
         ·subst bi;have I:=Z (show aF=true from N.trans (by decide));clear N;exact Z0w
         have cG:(L==[123])=false:=Ba bi;by_cases O:L=[105,102]
         ·subst O;have I:=Z (show aF=true from N.trans (by decide));clear N;exact Z0w
         have cH:(L==[105,102])=false:=Ba O;by_cases ai:L=[119,104,105,108,101]
         ·subst ai;have I:=Z (show aF=true from N.trans (by decide));clear N;exact Z0w
         have cI:(L==[119,104,105,108,101])=false:=Ba ai;by_cases aJ:L=[117,110,116,105,108]
         ·subst aJ;have I:=Z (show aF=true from N.trans (by decide));clear N;exact Z0w
         have cJ:(L==[117,110,116,105,108])=false:=Ba aJ;by_cases bj:L=[102,111,114]
         ·subst bj;have I:=Z (show aF=true from N.trans (by decide));clear N;exact Z0w
         have cK:(L==[102,111,114])=false:=Ba bj;by_cases bk:L=[99,97,115,101]
         ·subst bk;have I:=Z (show aF=true from N.trans (by decide));clear N;exact Z0w
         have cL:(L==[99,97,115,101])=false:=Ba bk;have I:=Z (show aF=false from N.trans (by unfold FH;simp only[List.contains_cons,List.contains_nil,F2,Oz,Dp,DX,I5,Fy,cG,cH,cI,cJ,cK,cL,Bool.or_false]));clear N bi O ai aJ bj bk;exact Z0w
        ·have bh:((aa:Int)==1)=false:=(by rw[beq_eq_false_iff_ne];omega);have I:=Z (show aF=false from bq.out.symm.trans (by unfold FG;rw[show(aa==2)=false from Ba al,show(aa==1)=false from Ba aC];rfl));clear aC al;exact Z0w
     case rest=>
     obtain⟨rfl,a0⟩:=hcut;have c':=Z (b2.out.grown a0);have a3:=Z (AJ a3.out (Bp a0));have d5:=Z (Y.grown d2.out a0 (by simp));clear a0 aZ az aA aJ cs;obtain⟨d6,eM⟩: ∃x,x=wc:=⟨_,rfl⟩;subst eM;cases aF with
     |false=>
      have bp:=Z (cy.out d6 _ c'.out);have c6:=Z (show R=.bad ak (if aa=4 then 23 else 17)from d1.out.trans (U (by show¬FG _=true;rw[bq.out];decide)));exact Z0x
     |true=>
      have eN:=Z (dm.out bb _ d6 c'.out ct.out.1 bq.out);have d7:=Z (show R=(aK bb (⟨aa,L,ak⟩::eK) []).bind fun x ts ns=>An { kind:=15,name:=z,kids:=[x] } ts ns from d1.out.trans (Ah bq.out));go_wp2_with fail;refine eN.out.mono ?_;intro e br bQ;obtain⟨v,ms,e1,rfl,am,hs,G,a9⟩:=Ry bQ;obtain⟨an,ao,rfl⟩:=am.form;have d8:=Z (am.low a3.out.size);have cN:=Z a9;have cu:=Z (Y.grown d5.out G (fun e=>by injection e with e;subst e;exact Ai (d5.out.AN.uniq c'.out.AN) (by decide)));have d9:=Z (AJ a3.out G);have bD:=Z hs;clear bQ am hs G a9;rcases cN.out with⟨x,eO,O,ai⟩|⟨bw,bo,O,ai⟩
      ·subst O;have da:=Z ai;obtain⟨aj,a,cA,h,aL,bA⟩:=bD.out;obtain⟨ad,ag,au,c3,c4⟩:=h.cells;have lb:=h.lb;have db:=Y.frozen h.BD 2;have bE:=BS.MK h aL dQ.out bA;have eP:(bb:Int)≤26:=(by omega);have eQ:(1:Int)≤(bb:Int):=(by have:=dQ.out;omega);have a4:=AM (AB br (some rb)) (p:=⟨rb,2,none⟩) (.inl rfl) (.int .i64 ((bb:Int)-1));have aT:=Z (d8.out.rb a4 bD.out.AN);have cv:=Z (AJ d9.out a4);have bF:=Z (Y.grown cu.out a4 (fun e=>by injection e with e;subst e;exact Ai (cu.out.AN.uniq bD.out.AN) (by decide)));clear h aL bA a4 ai;go_upto_region 30 with(fail);generalize br.setCell ⟨rb,2,none⟩ (.int .i64 ((bb:Int)-1))=a5 at bE aT cv bF⊢;have dc:=Z bE;clear ad ag au c3 c4 lb db eP eQ bE;have dd:=Z (show R=.ok (ms.length:Int) eO (Bc [ms] { kind:=15,name:=z }) by
        have bH:=dn.out bb _ _ _ _ _ ct.out.2.1 da.out;obtain⟨eR,eS,_,_⟩:=bH.ne;rw[d7.out,da.out,Pc aT.out.2.1 eR,eS];rfl)
       have eT:=Z (show(Bc [ms] { kind:=15,name:=z }).length≤50000 by
        have bH:=dn.out bb _ _ _ _ _ ct.out.2.1 da.out;obtain⟨_,_,_,e2⟩:=bH.ne;rw[Cb];have:=ct.out.2.2;simp[BO];omega)
       have b6:=Z (MO aT.out.1);have b7:=Z (dc.out.grown (AF (AB a5 none) (.cells #[.slice an ms.length ao] 22)));have bc:=Z (AF cv.out (.cells #[.slice an ms.length ao] 22));have az:(a5.alloc (.cells #[.slice an ms.length ao] 22)).cell? ⟨a7,1,none⟩=some (.string ⟨z.toArray⟩):=Y.cell (bF.out.alloc _) 1;have aA:=Y.lt (bF.out.alloc (.cells #[.slice an ms.length ao] 22));have b8:=Z aT.out.2.1;have eU:=Z (show(Bc [ms] { kind:=15,name:=z }).length≤50001 by rw[Cb];have:=aT.out.2.2.1;simp[BO];omega);have a6:=Z (dp.out [ms] z _ _ bc.out.size b6.out (fun m aU=>by rw[List.mem_singleton]at aU;subst aU;exact b8.out) (by have:=aT.out.2.2.1;simp[BO];omega) (by simp));unfold FO AT sv at a6;simp only[]at a6;have d':=Z (DU (ps:=[ms]) (n:= { kind:=15,name:=z }) (fun m aU=>by rw[List.mem_singleton]at aU;subst aU;exact b8.out) (by simp) rfl);generalize af:a5.alloc (.cells #[.slice an ms.length ao] 22)=eV,de:a5.heap.size=eW at b6 b7 bc az aA a6;go_wp2_with fail;try rw[af,de]
       refine a6.out.mono ?_;rintro e bx ⟨v,rfl,bG,cw,bs⟩;obtain⟨ea,eb,rfl,_⟩:=bG.form;have eX:=Z (show Fe w bx (Bc [ms] { kind:=15,name:=z }) (.slice ea (Bc [ms] { kind:=15,name:=z }).length eb)from⟨bG,d'.out,eT.out,fun g G=>Ef bc.out.size (cw g G)⟩);have aR:=Z (b7.out.grown bs);have aS:=Z (AJ bc.out (Bp bs));clear bG cw bs;go_wp2_with fail;rw[dd.out];go_ret;exact⟨_,rfl,eX.out,aR.out,aS.out⟩
      ·subst O;have dd:=Z (show R=.bad bw bo by rw[d7.out,ai];rfl);obtain⟨aj,a,a',h,b1⟩:=bD.out;obtain⟨ad,ag,au,c3,c4⟩:=h.cells;have lb:=h.lb;have db:=Y.frozen h.BD 2;have bE: ∀x:Int,BS (br.setCell ⟨rb,2,none⟩ (.int .i64 x)) rb T (.er bw bo):=fun x=>⟨aj,a,x,h.set 2 (.inl rfl) x,b1⟩
       have a4: ∀x:Int,br.grownBy (br.setCell ⟨rb,2,none⟩ (.int .i64 x)) (some rb):=fun x=>AM (AB br (some rb)) (p:=⟨rb,2,none⟩) (.inl rfl) (.int .i64 x)
       have eY:=Z (fun x=>A8 (bE x) (A8 (d8.out.rb (a4 x) bD.out.AN) (A8 (AJ d9.out (a4 x)) (Y.grown cu.out (a4 x) (fun e=>by injection e with e;subst e;exact Ai (cu.out.AN.uniq bD.out.AN) (by decide))))));clear h a4 ai bE b1;go_upto_region 30 with(fail);have ec:=eY.out (wrap64 (a'-1));generalize br.setCell ⟨rb,2,none⟩ (.int .i64 (wrap64 (a'-1)))=a5 at ec⊢;clear ad ag au c3 c4 lb db;obtain⟨aC,al,ed,ee⟩:=ec;have dc:=Z aC;have aT:=Z al;have cv:=Z ed;have bF:=Z ee;clear aC al ed ee;have b6:=Z (MO aT.out.1);have b7:=Z (dc.out.grown (AF (AB a5 none) (.cells #[.slice an ms.length ao] 22)));have bc:=Z (AF cv.out (.cells #[.slice an ms.length ao] 22));have az:(a5.alloc (.cells #[.slice an ms.length ao] 22)).cell? ⟨a7,1,none⟩=some (.string ⟨z.toArray⟩):=Y.cell (bF.out.alloc _) 1;have aA:=Y.lt (bF.out.alloc (.cells #[.slice an ms.length ao] 22));have b8:=Z aT.out.2.1;have eU:=Z (show(Bc [ms] { kind:=15,name:=z }).length≤50001 by rw[Cb];have:=aT.out.2.2.1;simp[BO];omega);have a6:=Z (dp.out [ms] z _ _ bc.out.size b6.out (fun m aU=>by rw[List.mem_singleton]at aU;subst aU;exact b8.out) (by have:=aT.out.2.2.1;simp[BO];omega) (by simp));unfold FO AT sv at a6;simp only[]at a6;have d':=Z (DU (ps:=[ms]) (n:= { kind:=15,name:=z }) (fun m aU=>by rw[List.mem_singleton]at aU;subst aU;exact b8.out) (by simp) rfl);generalize af:a5.alloc (.cells #[.slice an ms.length ao] 22)=eV,de:a5.heap.size=eW at b6 b7 bc az aA a6;go_wp2_with fail;try rw[af,de]
       refine a6.out.mono ?_;rintro e bx ⟨v,rfl,bG,cw,bs⟩;obtain⟨ea,eb,rfl,_⟩:=bG.form;have aR:=Z (b7.out.grown bs);have aS:=Z (AJ bc.out (Bp bs));clear bG cw bs;go_wp2_with fail;rw[dd.out];exact Z0z
end
end Go.Proofs.YtdhfhphbkfgamaaGreat
