/- A part. -/
import Derived.Test.YtdhfhphbkfgamaaGreatEr
set_option maxRecDepth 100000
set_option linter.all false
set_option maxHeartbeats 0
namespace Go.Proofs.YtdhfhphbkfgamaaGreat
open Go.RowKit Lx Proofs.Tryz
theorem LR(s:List UInt8)(w:World):Calls prog 91 #[sv s] w (fun e w'=>e=.returned (.bool (Df s))/\w'=w):=by
 unfold sv;by_cases h:s=[33]
 ·subst h;go_enter func91,ntmps91;go_wp2_with fail;go_ret;exact⟨Bv (a:=true) (by decide),rfl⟩
 have ae:(s==[33])=false:=Bd h;by_cases z:s=[123]
 ·subst z;go_enter func91,ntmps91;go_wp2_with fail;go_ret;exact⟨Bv (a:=true) (by decide),rfl⟩
 have af:(s==[123])=false:=Bd z;by_cases F:s=[125]
 ·subst F;go_enter func91,ntmps91;go_wp2_with fail;go_ret;exact⟨Bv (a:=true) (by decide),rfl⟩
 have ag:(s==[125])=false:=Bd F;by_cases G:s=[99,97,115,101]
 ·subst G;go_enter func91,ntmps91;go_wp2_with fail;go_ret;exact⟨Bv (a:=true) (by decide),rfl⟩
 have ah:(s==[99,97,115,101])=false:=Bd G;by_cases I:s=[100,111]
 ·subst I;go_enter func91,ntmps91;go_wp2_with fail;go_ret;exact⟨Bv (a:=true) (by decide),rfl⟩
 have ai:(s==[100,111])=false:=Bd I;by_cases J:s=[100,111,110,101]
 ·subst J;go_enter func91,ntmps91;go_wp2_with fail;go_ret;exact⟨Bv (a:=true) (by decide),rfl⟩
 have aj:(s==[100,111,110,101])=false:=Bd J;by_cases K:s=[101,108,105,102]
 ·subst K;go_enter func91,ntmps91;go_wp2_with fail;go_ret;exact⟨Bv (a:=true) (by decide),rfl⟩
 have ak:(s==[101,108,105,102])=false:=Bd K;by_cases L:s=[101,108,115,101]
 ·subst L;go_enter func91,ntmps91;go_wp2_with fail;go_ret;exact⟨Bv (a:=true) (by decide),rfl⟩
 have al:(s==[101,108,115,101])=false:=Bd L;by_cases M:s=[101,115,97,99]
 ·subst M;go_enter func91,ntmps91;go_wp2_with fail;go_ret;exact⟨Bv (a:=true) (by decide),rfl⟩
 have am:(s==[101,115,97,99])=false:=Bd M;by_cases N:s=[102,105]
 ·subst N;go_enter func91,ntmps91;go_wp2_with fail;go_ret;exact⟨Bv (a:=true) (by decide),rfl⟩
 have an:(s==[102,105])=false:=Bd N;by_cases O:s=[102,111,114]
 ·subst O;go_enter func91,ntmps91;go_wp2_with fail;go_ret;exact⟨Bv (a:=true) (by decide),rfl⟩
 have ao:(s==[102,111,114])=false:=Bd O;by_cases W:s=[105,102]
 ·subst W;go_enter func91,ntmps91;go_wp2_with fail;go_ret;exact⟨Bv (a:=true) (by decide),rfl⟩
 have ap:(s==[105,102])=false:=Bd W;by_cases X:s=[105,110]
 ·subst X;go_enter func91,ntmps91;go_wp2_with fail;go_ret;exact⟨Bv (a:=true) (by decide),rfl⟩
 have aq:(s==[105,110])=false:=Bd X;by_cases aa:s=[116,104,101,110]
 ·subst aa;go_enter func91,ntmps91;go_wp2_with fail;go_ret;exact⟨Bv (a:=true) (by decide),rfl⟩
 have ar:(s==[116,104,101,110])=false:=Bd aa;by_cases ab:s=[117,110,116,105,108]
 ·subst ab;go_enter func91,ntmps91;go_wp2_with fail;go_ret;exact⟨Bv (a:=true) (by decide),rfl⟩
 have au:(s==[117,110,116,105,108])=false:=Bd ab;by_cases ac:s=[119,104,105,108,101]
 ·subst ac;go_enter func91,ntmps91;go_wp2_with fail;go_ret;exact⟨Bv (a:=true) (by decide),rfl⟩
 have aw:(s==[119,104,105,108,101])=false:=Bd ac;have ad:Df s=false:=by
  unfold Df Lh;simp only[List.contains_cons,List.contains_nil,Bool.or_false];simp only[Da,GM,C4,GQ,ER,BX,Fl,Fa,DG,IH,JS,Ph,F1,Fb,Dk,Dv,ae,af,ag,ah,ai,aj,ak,al,am,an,ao,ap,aq,ar,au,aw,Bool.or_false]
 have ax:=Z ad;clear ad;go_enter func91,ntmps91;go_wp2_with fail;go_ret;exact⟨Bv (a:=false) (by rw[ax.out]),rfl⟩
theorem TA(rb:Nat)(T:List AY)(z:Value)(a:Nat)(d f x k:Int)(w:World)(h:IA w rb T z a d 0 f):Calls prog 73 #[.pointer (some ⟨rb,0,none⟩),.int .i64 x,.int .i64 k] w (fun e w'=>e=.returned (.tuple #[])/\IA w' rb T z a d k x/\w.grownBy w' (some rb)):=by
 obtain⟨G,I,J,c3,c4⟩:=h.cells;have lb:=h.lb;have z3:=Y.frozen h.BF 3;have K:=Y.frozen h.BF 4;have F:=Z ((h.set 3 (.inr (.inl rfl)) k).set 4 (.inr (.inr rfl)) x);clear h;go_enter func73,ntmps73;go_wp2_with fail;refine bodyPost_end (results_none rfl _ _ _) rfl ⟨rfl,F.out,?_⟩;exact AN (AN (AB w (some rb)) (p:=⟨rb,3,none⟩) (.inl rfl) _) (p:=⟨rb,4,none⟩) (.inl rfl) _
theorem RS(rb:Nat)(T:List AY)(F:Value)(a d:Nat)(f:Int)(t:AY)(r:List AY)(w:World)(h:IA w rb T F a d 0 f)(J:T.drop a=t::r)(X:24<d)(aq:d<=26):Calls prog 117 #[.pointer (some ⟨rb,0,none⟩)] w (fun e w'=>e=.returned (.tuple #[])/\(∃x,IA w' rb T F a x 17 t.a)/\w.grownBy w' (some rb)):=by
 have aa:=Z (fun f x K (ab:IA K rb T F a d 0 f)=>TA rb T F a d f x 17 K ab);have ac:=Z h;obtain⟨G,L,M,c3,c4⟩:=h.cells;obtain⟨g,ad,ae,t9,ar,rfl,af,ag,N,t0,t1,t2⟩:=h.Dh;have lb:=h.lb;have ah:=h.lt;have ai:(0:Int)<=(a:Int)/\(a:Int)<((T.length:Nat):Int):=(by omega);have aj:=h.tg.len;obtain⟨au,O⟩:=U T.length;have ak:=J.symm.trans N;injection ak with al am;subst al am;have q:decide ((24:Int)<(d:Int))=true:=Au (by omega);have aw:(d:Int)<=26:=(by omega);have I:Hid (∀n:Nat,IA (w.drewN n) rb T (.slice (some ⟨g,ad,none⟩) T.length ae) a d 0 f/\w.grownBy (w.drewN n) (some rb)):=Z (fun n=>⟨h.grown (At (AB w none) n),At (AB w _) n⟩);rw[O]at G ai af aj;clear h J N O ah ac X;obtain⟨ax,ay,an⟩:=t;simp only[]at t0 t1 t2;go_enter func117,ntmps117;go_upto_region 1 with(fail);refine Bh 12 (by kernel_rfl) (by kernel_rfl) ?_;simp only[List.take_succ_cons,List.take_zero,List.drop_succ_cons,List.drop_zero];repeat(go_big_quiet_step (fail))
 refine wpQuiet_nil ?_;rintro _ ⟨nq,rfl⟩;clear G L M c3 c4 t0 t1 t2 ag lb;go_wp2_with fail;refine(aa.out f an _ (I.out nq).1).mono ?_;rintro e az ⟨rfl,z,W⟩;have ao:=Z (AJ (I.out nq).2 W);clear W;obtain⟨G,L,M,c3,c4⟩:=z.cells;have lb:=z.lb;have aA:=Y.frozen z.BF 2;have ap:=Z z;clear z I;go_wp2_with fail;refine bodyPost_end (results_none rfl _ _ _) rfl ⟨rfl,⟨_,ap.out.set 2 (.inl rfl) _⟩,AN ao.out (p:=⟨rb,2,none⟩) (.inl rfl) _⟩
theorem IA.Yf{w:World}{rb:Nat}{T:List AY}{g h J a:Nat}{d e f:Int}{t u:AY}{r:List AY}(K:IA w rb T (.slice (some ⟨g,h,none⟩) T.length J) a d e f)(G:T.drop a=t::u::r):a+1<T.length/\w.cell? ⟨g,h+(a+1)*3,none⟩=some (.int .i64 u.k)/\w.cell? ⟨g,h+(a+1)*3+1,none⟩=some (.string ⟨u.t.toArray⟩)/\w.cell? ⟨g,h+(a+1)*3+2,none⟩=some (.int .i64 u.a):=by
 have I:=congrArg List.length G;rw[D8]at I;simp only[BR]at I;have z:a+1<T.length:=(by omega);obtain⟨X,aa,ab,e',_,_,L⟩:=N2 K.tok (by omega);injection e' with F ac ad;injection F with F;injection F with M N;subst M N;have O:T[a+1]=u:=by
  have:T[a+1]? =some u:=by
   have W:=congrArg (fun l=>l[1]?) G;simpa [List.getElem?_drop]using W
  rw[CZ z]at this;exact Option.some.inj this
 have:=L (a+1) z;rw[O]at this;exact⟨z,this⟩
theorem IA.Xq{w:World}{rb:Nat}{T:List AY}{z:Value}{a:Nat}{d e f:Int}{t u:AY}{r:List AY}(h:IA w rb T z a d e f)(F:T.drop a=t::u::r)(I:r≠[]):IA (w.setCell ⟨rb,1,none⟩ (.int .i64 ((a:Int)+2))) rb T z (a+2) d e f/\T.drop (a+2)=r:=by
 have G:=congrArg List.length F;rw[D8]at G;simp only[BR]at G;have K:0<r.length:=List.length_pos_iff.2 I;have J:z.ownBlock≠some rb:=fun e=>by have:=h.old rb e;omega
 refine⟨⟨?_,h.tok.Bi (p:=⟨rb,1,none⟩) J _,by omega,h.tg,h.old⟩,?_⟩
 ·have:=Y.AW h.BF 1 (.int .i64 ((a:Int)+2));exact this
 ·rw[<-List.drop_drop,F];rfl
theorem Sd{z:Eg}{d1:Nat}{t u:AY}{q:List AY}(F:u.k=2/\u.t=[40]):I0 z d1 (t::u::q) []=(AX DX q []).bind fun _ h ns=>if E7 (AG h)=true then(z d1 (AG h) ns).bind fun x h ns=>Ao { kind:=15,name:=t.t,kids:=[x] } h ns else A3 (AG h):=by
 have G:AX Bz (u::q) ([]:List V)=.ok () q []:=by
  unfold AX;have I:BT (u::q) Bz=true:=(show((u.k==2&&u.t==Bz)||GD (u::q) Bz)=true by rw[F.1,F.2];rfl);rw[Ai I];rfl
 show(AX Bz (u::q) []).bind _=_;rw[G];rfl
theorem TY{h:Eg}{d:Nat}{ts:List AY}{ns:List V}(z:E7 ts=true):FW h d ts ns=h d ts ns:=Ai z
theorem PX{h:Eg}{d:Nat}{ts:List AY}{ns:List V}(z:E7 ts=false)(F:I2 ts=false):FW h d ts ns=Iz ts ns:=by
 unfold FW;rw[AP (by rw[z];decide),AP (by rw[F];decide)]
theorem TV{h:Eg}{d:Nat}{ts:List AY}{ns:List V}(z:E7 ts=false)(F:I2 ts=true):FW h d ts ns=B1 (I0 h) d ts ns:=by
 unfold FW;rw[AP (by rw[z];decide),Ai F]
theorem Px{ms:List V}(z:KB ms)(F:ms≠[])(h:List UInt8):Bf [ms] { kind:=15,name:=h } =ms++[{ kind:=15,name:=h,kids:=[(ms.length:Int)-1] }]:=by
 unfold Bf;rw[Fy z F];rfl
theorem VX{av:Nat->Prop}{w:World}(h:List UInt8):Bk av w (.slice none 0 0) (.slice none 0 0) (.slice none 0 0) (.slice none 0 0) (.slice none 0 0) { kind:=15,name:=h } :=
 (Dt (av:=av) (w:=w) 15).as rfl rfl rfl rfl rfl
theorem R6{w w':World}{rb d:Nat}{T:List AY}{h:PR Int}{e:Ending}(K:GU (F2 w) (X7 w) rb T d w h e w'):∃v ms z,e=.returned v/\F2 w w' ms v/\BU w' rb T z/\w.grownBy w' (some rb)/\((∃x L,z=.ok L d/\h=.ok x L ms)\/(∃a k,z=.er a k/\h=.bad a k)):=by
 cases h with
 |ok x ts ns=>
  obtain⟨v,F,G,I,J⟩:=K;exact⟨v,ns,_,F,G,I,J,.inl ⟨x,ts,rfl,rfl⟩⟩
 |bad a k=>
  obtain⟨v,F,⟨l,G⟩,I,J⟩:=K;exact⟨v,l,_,F,G,I,J,.inr ⟨a,k,rfl,rfl⟩⟩
theorem Nh(n:Nat)(aG:Eg)(ap:Fc 5 aG)(da:∀rb T d ts w,BU w rb T (.ok ts d)->ts.length<=n->E7 ts=true->Calls prog 115 #[.pointer (some ⟨rb,0,none⟩)] w (GU (F2 w) (X7 w) rb T d w (aG d ts []))):Sa TG 101 (FW aG) n:=by
 intro rb T d ts w h db;have dc:=Z (fun M ts (af:BU M rb T (.ok ts d))=>MN rb T ts d M af);have eb:=Z (fun aj a f t r M af aq aC a'=>RS rb T aj a d f t r M af aq aC a');have cs:=Z (fun M aU s (af:BU M rb T aU)=>Ge rb T aU s M af);have dd:=Z (fun M aU (af:BU M rb T aU)=>DM rb T aU M af);have ct:=Z (fun M aU (af:BU M rb T aU)=>EX rb T aU M af);have de:=Z (fun M ts (af:BU M rb T (.ok ts d))=>Na rb T ts d M af);have df:=Z (fun s M h=>J3 s M h);have dg:=Z (fun s M=>LR s M);have dh:=Z (fun d ts M af aq aC=>da rb T d ts M af aq aC);have di:=Z ap;have dj:=Z (fun ps dk ec M (af:w.heap.size<=M.heap.size) ed ee ef bC=>F3 (low w) ps { kind:=15,name:=dk } ec _ _ _ _ M (fun k hk=>DZ hk af) ed (VX dk) rfl ee ef bC);unfold Qu at dc cs dd ct;unfold sv at df dg cs;have eV:=Z h.lb;have bD:=Z h.Ak;have dl:=Z db;have dm:=Z h;obtain⟨R,cu⟩:=U (FW aG d ts []);have b4:=Z cu;show Calls prog 101 #[.pointer (some ⟨rb,0,none⟩)] w (GU (F2 w) TG rb T d w (FW aG d ts []));rw[cu];obtain⟨t,r,rfl⟩:=h.Ak.1.ne;clear cu h db da ap;have dn:=Z (bD.out.2.2.1 t (En ..)).1;obtain⟨J,z,ab⟩:=t;simp only[]at dn;go_enter func101,ntmps101;obtain⟨aj,a,cv,h,ap,aH⟩:=dm.out;obtain⟨ad,ag,au,c3,c4⟩:=h.cells;obtain⟨g,K,aI,t9,bE,rfl,aJ,G,aD,t0,t1,t2⟩:=h.Dh;have lb:=h.lb;have bF:=h.lt;have aK:(0:Int)<=(a:Int)/\(a:Int)<((T.length:Nat):Int):=(by omega);have aL:=h.tg.len;obtain⟨LT,aE⟩:=U T.length;have ba:(a:Int)<=500:=(by omega);have dp:=Z h;have cw:=Z (BC ap aH);have bG:=ap.symm.trans aD;injection bG with bH bI;subst bH bI;rw[aE]at ad aK aJ aL;have aV:=Y.frozen h.BF 1;clear h ap aH aD aE bF;simp only[]at t0 t1 t2;go_upto_region 3 with(fail);have aM:Hid (∀F:World,w.grownBy F none->(F.cell? ⟨rb,0,none⟩=some (.slice (some ⟨g,K,none⟩) LT aI)/\F.cell? ⟨rb,1,none⟩=some (.int .i64 a)/\F.cell? ⟨g,K+a*3,none⟩=some (.int .i64 J)/\F.cell? ⟨g,K+a*3+1,none⟩=some (.string ⟨z.toArray⟩)/\F.cell? ⟨g,K+a*3+2,none⟩=some (.int .i64 ab))):=
  Z (fun F X=>⟨AH X lb ad,AH X lb ag,AH X G t0,AH X G t1,AH X G t2⟩)
 go_region_held3 (fun F=>F.cell? ⟨rb,0,none⟩=some (.slice (some ⟨g,K,none⟩) LT aI)/\F.cell? ⟨rb,1,none⟩=some (.int .i64 a)/\F.cell? ⟨g,K+a*3,none⟩=some (.int .i64 J)/\F.cell? ⟨g,K+a*3+1,none⟩=some (.string ⟨z.toArray⟩)/\F.cell? ⟨g,K+a*3+2,none⟩=some (.int .i64 ab))
  (first|go_keep|exact aM.out _ (by repeat' (first|(with_reducible exact AB _ _)|(with_reducible refine Af ?_ ?_ _)|(with_reducible refine AI ?_ G)|(with_reducible refine Ah ?_)|(with_reducible refine AF ?_ _)|omega|(simp;done))))
  (fail)
 have ae:=Ah (AF (AB w none) (.cells #[.int .i64 J,.string ⟨z.toArray⟩,.int .i64 ab] 69));have bJ:=Z (show Y (w.alloc (.cells #[.int .i64 J,.string ⟨z.toArray⟩,.int .i64 ab] 69)).drew w.heap.size 69 #[.int .i64 J,.string ⟨z.toArray⟩,.int .i64 ab]from Y.new w 69 _);have bb:=Z (dm.out.grown ae);have dq:=Z ae;generalize (w.alloc (.cells #[.int .i64 J,.string ⟨z.toArray⟩,.int .i64 ab] 69)).drew=ah,w.heap.size=a4 at bJ bb dq⊢;clear aM ae;clear ad ag au c3 c4 t0 t1 t2 G lb aK aL ba aJ aV;have aW:ah.cell? ⟨a4,0,none⟩=some (.int .i64 J):=Y.cell bJ.out 0;have aw:ah.cell? ⟨a4,1,none⟩=some (.string ⟨z.toArray⟩):=Y.cell bJ.out 1;have ax:=Y.lt bJ.out;obtain⟨aN,dr⟩:=U (Fj ⟨J,z,ab⟩);have bc:=Z dr;obtain⟨c4,ds⟩:=U (((J==2)&&(z==[40])));have bK:=Z ds;clear dr ds;go_upto_region 4 with(fail);go_cut [4] (fun cx ar=>cx=.bool c4/\ah.grownBy ar none);case first=>
  as_aux_lemma=>
   by_cases al:J=2
   ·subst al;by_cases O:z=[40]
    ·subst O;have I:=Z (show c4=true from bK.out.symm.trans (by decide));go_wp2_with fail;go_meet;exact⟨by rw[I.out],AB _ _⟩
    ·have bd:(z==[40])=false:=Bd O;have I:=Z (show c4=false from bK.out.symm.trans (by rw[bd];decide));clear O;go_wp2_with fail;go_meet;exact⟨by rw[I.out],AB _ _⟩
   ·have cy:((J:Int)==2)=false:=(by rw[A4];omega);have I:=Z (show c4=false from bK.out.symm.trans (by rw[show(J==2)=false from Bd al];rfl));clear al;go_wp2_with fail;go_meet;exact⟨by rw[I.out],AB _ _⟩
 case rest=>
 obtain⟨rfl,b5⟩:=hcut;have b6:=Z (Y.grown bJ.out b5 (by simp));have eg:=Z (bb.out.grown b5);have eh:=Z (AI dq.out b5);clear b5 aW aw ax;obtain⟨cz,ei⟩:=JH wc;subst ei;have aW:cz.cell? ⟨a4,0,none⟩=some (.int .i64 J):=Y.cell b6.out 0;have aw:cz.cell? ⟨a4,1,none⟩=some (.string ⟨z.toArray⟩):=Y.cell b6.out 1;have ax:=Y.lt b6.out;obtain⟨dt,b7⟩:=U (((J:Int)==1));have du:=Z (show(J==1)=dt by
  rw[<-b7];by_cases ay:J=1
  ·subst ay;rfl
  ·rw[Bd ay];symm;rw[A4];omega)
 go_upto_if 34 with(fail);go_cut [4] (fun cx ar=>cx=.bool aN/\cz.grownBy ar none);case first=>
  as_aux_lemma=>
   cases dt with
   |false=>
    have I:=Z (show aN=c4 from by
     rw[<-bc.out,<-bK.out];unfold Fj;simp only[];rw[du.out];show((J==2&&z==[40])||(false&&_))=_;rw[Bool.false_and,Bool.or_false])
    clear b7;go_wp2_with fail;go_meet;exact⟨by rw[I.out],AB _ _⟩
   |true=>
    have cA:J=1:=(by have:=du.out;simpa using this);have ej:c4=false:=(by rw[<-bK.out,cA];rfl);have N:aN=Fi.contains z:=(by rw[<-bc.out];unfold Fj;simp only[];rw[cA];rfl);subst ej;clear cA b7;by_cases be:z=[123]
    ·subst be;have I:=Z (show aN=true from N.trans (by decide));clear N;go_wp2_with fail;go_meet;exact⟨by rw[I.out],AB _ _⟩
    have cB:(z==[123])=false:=Bd be;by_cases O:z=[105,102]
    ·subst O;have I:=Z (show aN=true from N.trans (by decide));clear N;go_wp2_with fail;go_meet;exact⟨by rw[I.out],AB _ _⟩
    have cC:(z==[105,102])=false:=Bd O;by_cases ai:z=[119,104,105,108,101]
    ·subst ai;have I:=Z (show aN=true from N.trans (by decide));clear N;go_wp2_with fail;go_meet;exact⟨by rw[I.out],AB _ _⟩
    have cD:(z==[119,104,105,108,101])=false:=Bd ai;by_cases aF:z=[117,110,116,105,108]
    ·subst aF;have I:=Z (show aN=true from N.trans (by decide));clear N;go_wp2_with fail;go_meet;exact⟨by rw[I.out],AB _ _⟩
    have cE:(z==[117,110,116,105,108])=false:=Bd aF;by_cases bf:z=[102,111,114]
    ·subst bf;have I:=Z (show aN=true from N.trans (by decide));clear N;go_wp2_with fail;go_meet;exact⟨by rw[I.out],AB _ _⟩
    have cF:(z==[102,111,114])=false:=Bd bf;by_cases bg:z=[99,97,115,101]
    ·subst bg;have I:=Z (show aN=true from N.trans (by decide));clear N;go_wp2_with fail;go_meet;exact⟨by rw[I.out],AB _ _⟩
    have cG:(z==[99,97,115,101])=false:=Bd bg;have I:=Z (show aN=false from N.trans (by unfold Fi;simp only[List.contains_cons,List.contains_nil,GM,Ph,Dv,Dk,JS,GQ,cB,cC,cD,cE,cF,cG,Bool.or_false]));clear N be O ai aF bf bg;go_wp2_with fail;go_meet;exact⟨by rw[I.out],AB _ _⟩
 case rest=>
 obtain⟨rfl,aX⟩:=hcut;have b8:=Z (Y.grown b6.out aX (by simp));have dv:=Z (eg.out.grown aX);have cH:=Z (AI eh.out aX);clear aX aW aw ax b7;cases aN with
 |true=>
  have ek:=Z (dh.out d _ wc dv.out dl.out bc.out);have a5:=Z (show R=aG d (⟨J,z,ab⟩::r) []from b4.out.symm.trans (TY bc.out));go_wp2_with fail;refine ek.out.mono ?_;intro e aY bL;obtain⟨v,ms,aU,rfl,am,hs,G,a6⟩:=R6 bL;obtain⟨an,ao,rfl⟩:=am.form;have bh:=Z (am.low cH.out.size);have bp:=Z hs;have bi:=Z (AJ (Bt cH.out) G);have cI:=Z a6;clear bL am hs G a6;go_wp2_with fail;rw[a5.out];go_ret;rcases cI.out with⟨x,az,O,ai⟩|⟨a,k,O,ai⟩
  ·rw[ai];subst O;exact⟨_,rfl,bh.out,bp.out,bi.out⟩
  ·rw[ai];subst O;exact⟨_,rfl,⟨_,_,_,rfl⟩,bp.out,bi.out⟩
 |false=>
  obtain⟨bM,dw⟩:=U ((CE ⟨J,z,ab⟩&&!Df z));have bq:=Z dw;clear dw;have aW:wc.cell? ⟨a4,0,none⟩=some (.int .i64 J):=Y.cell b8.out 0;have aw:wc.cell? ⟨a4,1,none⟩=some (.string ⟨z.toArray⟩):=Y.cell b8.out 1;have ax:=Y.lt b8.out;obtain⟨br,el⟩:=JH wc;subst el;go_upto_region 16 with(fail);go_cut [64] (fun em ar=>em=.bool bM/\br.grownBy ar none);case first=>
   as_aux_lemma=>
    by_cases ay:J=1
    ·subst ay;have aq:=sz z;obtain⟨b9,bN⟩:=U (Gq z);obtain⟨bE,b'⟩:=U (Df z);have cJ:=Z (fun M=>df.out z M (by have:=dn.out;omega));have cK:=Z (fun M=>dg.out z M);rw[bN]at cJ;rw[b']at cK;by_cases bO:b9=z.length
     ·have en:((b9:Int)==(z.length:Int))=true:=(by rw[bO];simp);have bh:=Z (show bM=!bE by
       rw[<-bq.out,<-b'];unfold CE;simp only[bN,bO];simp)
      clear bO bN b';go_quiet (first|(go_at_call 116;exact Calls.quiet_of_same (cJ.out _))|(go_at_call 91;exact Calls.quiet_of_same (cK.out _)));go_wp2_with fail;go_meet;exact⟨by rw[bh.out],At (AB br none) _⟩
     ·have en:((b9:Int)==(z.length:Int))=false:=(by rw[A4];omega);have bh:=Z (show bM=false by
       rw[<-bq.out];unfold CE;simp only[bN];rw[show(b9==z.length)=false from Bd bO];simp)
      clear bO bN b';go_quiet (first|(go_at_call 116;exact Calls.quiet_of_same (cJ.out _))|(go_at_call 91;exact Calls.quiet_of_same (cK.out _)));go_wp2_with fail;go_meet;exact⟨by rw[bh.out],At (AB br none) _⟩
    ·have bd:((J:Int)==1)=false:=(by rw[A4];omega);have bh:=Z (show bM=false by
      rw[<-bq.out];unfold CE;rw[show(J==1)=false from Bd ay];rfl)
     clear ay;go_quiet (fail);go_wp2_with fail;go_meet;exact⟨by rw[bh.out],At (AB br none) _⟩
  case rest=>
  obtain⟨rfl,ca⟩:=hcut;have eo:=Z (Y.grown b8.out ca (by simp));have bp:=Z (dv.out.grown ca);have bi:=Z (AI cH.out ca);clear ca aW aw ax;obtain⟨aY,ep⟩:=JH wc;subst ep;cases bM with
  |false=>
   have bP:=Z (de.out aY _ bp.out);have a5:=Z (show R=Iz (⟨J,z,ab⟩::r) []from b4.out.symm.trans (PX bc.out (by have bQ:=bq.out;cases r with|nil=>rfl|cons u q=>show(CE _&&!Df _&&_&&_)=false;rw[show(CE (⟨J,z,ab⟩:AY)&&!Df z)=false from bQ];rfl)));obtain⟨cL,bj⟩:=U (Iz (⟨J,z,ab⟩::r) []);rw[bj]at bP;have bR:=Z (a5.out.trans bj);clear bj;go_wp2_with fail;refine bP.out.mono ?_;cases cL with
   |bad bs bk=>
    rintro e bt ⟨v,rfl,⟨an,ao,eq,rfl⟩,hs,G⟩;have aO:=Z hs;have aP:=Z (AJ (Bt bi.out) G);clear hs G;go_wp2_with fail;rw[bR.out];go_ret;exact⟨_,rfl,⟨_,_,_,rfl⟩,aO.out,aP.out⟩
   |ok x az ms=>
    rintro e bt ⟨v,rfl,am,hs,G⟩;obtain⟨an,ao,rfl⟩:=am.form;have cM:=Z (am.low (bi.out).size);have aO:=Z hs;have aP:=Z (AJ (Bt bi.out) G);clear am hs G;go_wp2_with fail;rw[bR.out];go_ret;exact⟨_,rfl,cM.out,aO.out,aP.out⟩
  |true=>
   have dx:=Z (show J=1 by have bQ:=bq.out;unfold CE at bQ;simp at bQ;exact bQ.1.1);obtain⟨u,q,rfl⟩:=(bD.out.1.tail (show J≠4 by rw[dx.out];decide)).ne;obtain⟨W,ac,aA⟩:=u;obtain⟨aj,a,cv,h,ap,aH⟩:=bp.out;obtain⟨ad,ag,au,c3,c4⟩:=h.cells;obtain⟨g,K,aI,t9,bE,rfl,aJ,G,aD,t0,t1,t2⟩:=h.Dh;have lb:=h.lb;have bF:=h.lt;have aK:(0:Int)<=(a:Int)/\(a:Int)<((T.length:Nat):Int):=(by omega);have aL:=h.tg.len;obtain⟨LT,aE⟩:=U T.length;have ba:(a:Int)<=500:=(by omega);have dp:=Z h;have cw:=Z (BC ap aH);have bG:=ap.symm.trans aD;injection bG with bH bI;subst bH bI;rw[aE]at ad aK aJ aL;have aV:=Y.frozen h.BF 1;obtain⟨dy,n0,cb,cc⟩:=h.Yf cw.out.1;simp only[]at n0 cb cc;obtain⟨aS,dz⟩:∃x:Nat,a+1=x:=⟨_,rfl⟩;rw[dz]at n0 cb cc dy;have dA:(0:Int)<=(aS:Int)/\(aS:Int)<((T.length:Nat):Int):=(by omega);have es:IntKind.i64.wrap ((a:Int)+1)=(aS:Int):=(by rw[IntKind.wrap_i64];omega);have et:(aS:Int)<=501:=(by omega);rw[aE]at dA;clear dz;clear h ap aH aD aE bF dy;go_upto_region 17 with(fail);have aM:Hid (∀F:World,aY.grownBy F none->(F.cell? ⟨rb,0,none⟩=some (.slice (some ⟨g,K,none⟩) LT aI)/\F.cell? ⟨rb,1,none⟩=some (.int .i64 a)/\F.cell? ⟨g,K+aS*3,none⟩=some (.int .i64 W)/\F.cell? ⟨g,K+aS*3+1,none⟩=some (.string ⟨ac.toArray⟩)/\F.cell? ⟨g,K+aS*3+2,none⟩=some (.int .i64 aA))):=
    Z (fun F X=>⟨AH X lb ad,AH X lb ag,AH X G n0,AH X G cb,AH X G cc⟩)
   go_region_held3 (fun F=>F.cell? ⟨rb,0,none⟩=some (.slice (some ⟨g,K,none⟩) LT aI)/\F.cell? ⟨rb,1,none⟩=some (.int .i64 a)/\F.cell? ⟨g,K+aS*3,none⟩=some (.int .i64 W)/\F.cell? ⟨g,K+aS*3+1,none⟩=some (.string ⟨ac.toArray⟩)/\F.cell? ⟨g,K+aS*3+2,none⟩=some (.int .i64 aA))
    (first|go_keep|exact aM.out _ (by repeat' (first|(with_reducible exact AB _ _)|(with_reducible refine Af ?_ ?_ _)|(with_reducible refine AI ?_ G)|(with_reducible refine Ah ?_)|(with_reducible refine AF ?_ _)|omega|(simp;done))))
    (fail)
   have ae:=Ah (AF (AB aY none) (.cells #[.int .i64 W,.string ⟨ac.toArray⟩,.int .i64 aA] 69));have cd:=Z (show Y (aY.alloc (.cells #[.int .i64 W,.string ⟨ac.toArray⟩,.int .i64 aA] 69)).drew aY.heap.size 69 #[.int .i64 W,.string ⟨ac.toArray⟩,.int .i64 aA]from Y.new aY 69 _);have dB:=Z (bp.out.grown ae);have dC:=Z (Y.grown eo.out ae (by simp));have dD:=Z (AI bi.out ae);generalize (aY.alloc (.cells #[.int .i64 W,.string ⟨ac.toArray⟩,.int .i64 aA] 69)).drew=cN,aY.heap.size=dE at cd dB dC dD⊢;clear aM ae n0 cb cc dA es et;clear ad ag au c3 c4 t0 t1 t2 G lb aK aL ba aJ aV;have aW:cN.cell? ⟨dE,0,none⟩=some (.int .i64 W):=Y.cell cd.out 0;have aw:cN.cell? ⟨dE,1,none⟩=some (.string ⟨ac.toArray⟩):=Y.cell cd.out 1;have ax:=Y.lt cd.out;obtain⟨bS,dF⟩:=U (((W==2)&&(ac==[40])));have bu:=Z dF;clear dF;go_upto_region 18 with(fail);go_cut [83] (fun eu ar=>eu=.bool bS/\cN.grownBy ar none);case first=>
    as_aux_lemma=>
     by_cases al:W=2
     ·subst al;by_cases O:ac=[40]
      ·subst O;have I:=Z (show bS=true from bu.out.symm.trans (by decide));go_wp2_with fail;go_meet;exact⟨by rw[I.out],AB _ _⟩
      ·have bd:(ac==[40])=false:=Bd O;have I:=Z (show bS=false from bu.out.symm.trans (by rw[bd];decide));clear O;go_wp2_with fail;go_meet;exact⟨by rw[I.out],AB _ _⟩
     ·have cy:((W:Int)==2)=false:=(by rw[A4];omega);have I:=Z (show bS=false from bu.out.symm.trans (by rw[show(W==2)=false from Bd al];rfl));clear al;go_wp2_with fail;go_meet;exact⟨by rw[I.out],AB _ _⟩
   case rest=>
   obtain⟨rfl,ce⟩:=hcut;have cO:=Z (Y.grown dC.out ce (by simp));have bT:=Z (dB.out.grown ce);have cf:=Z (AI dD.out ce);clear ce aW aw ax;obtain⟨cg,ev⟩:=JH wc;subst ev;cases bS with
   |false=>
    have bP:=Z (de.out cg _ bT.out);have a5:=Z (show R=Iz (⟨J,z,ab⟩::⟨W,ac,aA⟩::q) []from b4.out.symm.trans (PX bc.out (by show(CE _&&!Df _&&W==2&&ac==Bz)=false;rw[Bool.and_assoc,show(W==2&&ac==Bz)=false from bu.out,Bool.and_false])));obtain⟨cL,bj⟩:=U (Iz (⟨J,z,ab⟩::⟨W,ac,aA⟩::q) []);rw[bj]at bP;have bR:=Z (a5.out.trans bj);clear bj;go_wp2_with fail;refine bP.out.mono ?_;cases cL with
    |bad bs bk=>
     rintro e bt ⟨v,rfl,⟨an,ao,eq,rfl⟩,hs,G⟩;have aO:=Z hs;have aP:=Z (AJ (Bt cf.out) G);clear hs G;go_wp2_with fail;rw[bR.out];go_ret;exact⟨_,rfl,⟨_,_,_,rfl⟩,aO.out,aP.out⟩
    |ok x az ms=>
     rintro e bt ⟨v,rfl,am,hs,G⟩;obtain⟨an,ao,rfl⟩:=am.form;have cM:=Z (am.low (cf.out).size);have aO:=Z hs;have aP:=Z (AJ (Bt cf.out) G);clear am hs G;go_wp2_with fail;rw[bR.out];go_ret;exact⟨_,rfl,cM.out,aO.out,aP.out⟩
   |true=>
    have dG:=Z (show W=2/\ac=[40] by have:=bu.out;rw[CN]at this;simpa using this);have ew:=Z (show I2 (⟨J,z,ab⟩::⟨W,ac,aA⟩::q)=true by show(CE _&&!Df _&&W==2&&ac==Bz)=true;rw[Bool.and_assoc,show(W==2&&ac==Bz)=true from bu.out,Bool.and_true];exact bq.out);have a5:=Z (show R=B1 (I0 aG) d (⟨J,z,ab⟩::⟨W,ac,aA⟩::q) []from b4.out.symm.trans (TV bc.out ew.out));have cP:=Z (show Good q/\Wl q/\q≠[] by
     have aq:=bD.out.1.tail (show J≠4 by rw[dx.out];decide);have aC:=aq.tail (show W≠4 by rw[dG.out.1];decide);exact⟨aC,bD.out.2.1.tail.tail,fun e=>by obtain⟨_,_,a'⟩:=aC.ne;rw[e]at a';cases a'⟩)
    have dH:=Z (show q.length<=n/\10*q.length<=5000 by have aq:=dl.out;have aC:=bD.out.2.2.2.1;simp only[BR]at aq aC;omega);go_upto_region 19 with(fail);go_cut [] (fun ar=> ∃(aj:Value) (aT:Nat) (a7 ch ci:Int),IA ar rb T aj aT a7 ch ci/\T.drop aT=⟨J,z,ab⟩::⟨W,ac,aA⟩::q/\((ch=17/\ci=ab/\24<d)\/(ch=0/\a7=((d+1:Nat):Int)/\d<=24))/\cg.grownBy ar (some rb));case first=>
     as_aux_lemma=>
      by_cases aZ:24<d
      ·obtain⟨aj,a,f,h,a8,bv⟩:=bT.out;have cj:=Z (eb.out aj a f _ _ cg h a8 aZ bv);have ck:=Z (BC a8 aZ);clear h a8 bv aZ;go_wp2_with fail;refine cj.out.mono ?_;rintro e ar ⟨rfl,⟨x,aq⟩,bU⟩;have cQ:=Z aq;have cR:=Z bU;clear aq bU;go_wp2_with fail;go_meet;exact⟨_,_,_,_,_,cQ.out,ck.out.1,.inl ⟨rfl,rfl,ck.out.2⟩,cR.out⟩
      ·have cj:=Z (dc.out cg _ bT.out);rw[show Ky (.ok (⟨J,z,ab⟩::⟨W,ac,aA⟩::q) d)=.ok (⟨J,z,ab⟩::⟨W,ac,aA⟩::q) (d+1)from AP aZ]at cj;have ck:=Z aZ;clear aZ;go_wp2_with fail;refine cj.out.mono ?_;rintro e ar ⟨rfl,aq,bU⟩;have cQ:=Z aq;have cR:=Z bU;clear aq bU;go_wp2_with fail;go_meet;obtain⟨aj,a,f,h,a8,bv⟩:=cQ.out;exact⟨_,_,_,_,_,h,a8,.inr ⟨rfl,rfl,by have:=ck.out;omega⟩,cR.out⟩
    case rest=>
    obtain⟨aj,aT,a7,ch,ci,h,a8,a6,G⟩:=hcut;obtain⟨ad,ag,au,c3,c4⟩:=h.cells;have lb:=h.lb;have aV:=Y.frozen h.BF 1;have ex:(aT:Int)<=500:=(by have:=h.lt;have:=h.tg.len;omega);have cl:=h.Xq a8 cP.out.2.2;obtain⟨d1,cm⟩:=U (d+1);obtain⟨bV,dI,dJ⟩:∃bV:DS,BU (wc.setCell ⟨rb,1,none⟩ (.int .i64 ((aT:Int)+2))) rb T bV/\Cn R d1 n 0 (fun az=>(AX DX az []).bind fun _ ts ns=>if E7 (AG ts)=true then(aG d1 (AG ts) ns).bind fun x ts ns=>Ao { kind:=15,name:=z,kids:=[x] } ts ns else A3 (AG ts)) bV:=by
     rcases a6 with⟨rfl,rfl,aZ⟩|⟨rfl,rfl,aZ⟩
     ·refine⟨.er ab 17,⟨aj,aT+2,a7,cl.1,by decide⟩,?_⟩;exact(show R=.bad ab 17 by rw[a5.out];unfold B1;rw[Ai aZ])
     ·refine⟨.ok q d1,⟨aj,aT+2,ci,by rw[<-cm];exact cl.1,cl.2,by omega⟩,rfl,?_,by have:=dH.out.2;omega,dH.out.1,cP.out.1,cP.out.2.1⟩;rw[a5.out,<-cm];unfold B1;rw[AP (by omega),Sd dG.out]
    have dK:=Z cm;have cS:=Z dI;have ey:=Z dJ;have cT:=Z (Y.Bi (Y.grown cO.out G (fun e=>by injection e with e;subst e;exact Aj (cO.out.AO.uniq bT.out.AO) (by decide))) (p:=⟨rb,1,none⟩) (fun e=>by subst e;exact Aj (cO.out.AO.uniq bT.out.AO) (by decide)) (.int .i64 ((aT:Int)+2)));have dL:=Z (AN (AJ (Bt cf.out) G) (p:=⟨rb,1,none⟩) (.inl rfl) (.int .i64 ((aT:Int)+2)));clear h a8 a6 G cl cm dI dJ;go_upto_region 21 with(fail);generalize wc.setCell ⟨rb,1,none⟩ (.int .i64 ((aT:Int)+2))=ez at cS cT dL⊢;clear ad ag au c3 c4 lb aV ex;have cU:=Z (cs.out ez bV DX cS.out);have dM:=Z (Cn.IN ey.out);obtain⟨cV,dN⟩:=U (CG DX bV);rw[dN]at cU dM;unfold DX at cU;clear dN;go_wp2_with fail;refine cU.out.mono ?_;rintro e eA ⟨rfl,aC,cW⟩;have eB:=Z aC;have dO:=Z (Y.grown cT.out cW (fun e=>by injection e with e;subst e;exact Aj (cT.out.AO.uniq cS.out.AO) (by decide)));have eC:=Z (AJ dL.out cW);have dP:=Z (dd.out eA cV aC);have cX:=Z (show Cn R d1 n 0 (fun az=>if E7 az=true then(aG d1 az []).bind fun x ts ns=>Ao { kind:=15,name:=z,kids:=[x] } ts ns else A3 az) (B9 cV)from Cn.breaks (C:=fun az=>if E7 az=true then(aG d1 az []).bind fun x ts ns=>Ao { kind:=15,name:=z,kids:=[x] } ts ns else A3 az) dM.out);obtain⟨eD,dQ⟩:=U (B9 cV);rw[dQ]at dP cX;clear aC cW dQ;go_wp2_with fail;refine dP.out.mono ?_;rintro e ah ⟨rfl,a',cY⟩;have bb:=Z a';have eE:=Z (Y.grown dO.out cY (fun e=>by injection e with e;subst e;exact Aj (dO.out.AO.uniq eB.out.AO) (by decide)));have dR:=Z (AJ eC.out cY);clear a' cY;cases eD with
    |er bs bk=>
     obtain⟨aj,a,a7,h,bW⟩:=bb.out;obtain⟨ad,ag,au,c3,c4⟩:=h.cells;obtain⟨g,K,aI,v,bE,rfl,aJ,G,aD,t0,t1,t2⟩:=h.Dh;have lb:=h.lb;have aK:(0:Int)<=(a:Int)/\(a:Int)<((T.length:Nat):Int):=(by have:=h.lt;omega);have aL:=h.tg.len;obtain⟨LT,aE⟩:=U T.length;have ba:(a:Int)<=500:=(by have:=h.lt;omega);have aV:=Y.frozen h.BF 1;rw[aE]at ad aK aJ aL;have eW:(bk==0)=false:=Bd bW;clear h aD aE bW;obtain⟨aa,L,ak⟩:=v;simp only[]at t0 t1 t2;go_upto_region 23 with(fail);have aM:Hid (∀F:World,ah.grownBy F none->(F.cell? ⟨rb,0,none⟩=some (.slice (some ⟨g,K,none⟩) LT aI)/\F.cell? ⟨rb,1,none⟩=some (.int .i64 a)/\F.cell? ⟨g,K+a*3,none⟩=some (.int .i64 aa)/\F.cell? ⟨g,K+a*3+1,none⟩=some (.string ⟨L.toArray⟩)/\F.cell? ⟨g,K+a*3+2,none⟩=some (.int .i64 ak))):=
      Z (fun F X=>⟨AH X lb ad,AH X lb ag,AH X G t0,AH X G t1,AH X G t2⟩)
     go_region_held3 (fun F=>F.cell? ⟨rb,0,none⟩=some (.slice (some ⟨g,K,none⟩) LT aI)/\F.cell? ⟨rb,1,none⟩=some (.int .i64 a)/\F.cell? ⟨g,K+a*3,none⟩=some (.int .i64 aa)/\F.cell? ⟨g,K+a*3+1,none⟩=some (.string ⟨L.toArray⟩)/\F.cell? ⟨g,K+a*3+2,none⟩=some (.int .i64 ak))
      (first|go_keep|exact aM.out _ (by repeat' (first|(with_reducible exact AB _ _)|(with_reducible refine Af ?_ ?_ _)|(with_reducible refine AI ?_ G)|(with_reducible refine Ah ?_)|(with_reducible refine AF ?_ _)|omega|(simp;done))))
      (fail)
     have ae:=Ah (AF (AB ah none) (.cells #[.int .i64 aa,.string ⟨L.toArray⟩,.int .i64 ak] 69));have bw:=Z (show Y (ah.alloc (.cells #[.int .i64 aa,.string ⟨L.toArray⟩,.int .i64 ak] 69)).drew ah.heap.size 69 #[.int .i64 aa,.string ⟨L.toArray⟩,.int .i64 ak]from Y.new ah 69 _);have bX:=Z (bb.out.grown ae);have a0:=Z (AJ dR.out (Bt ae));have aF:=AH ae lb c3;have cn:=DZ lb ae.size;generalize (ah.alloc (.cells #[.int .i64 aa,.string ⟨L.toArray⟩,.int .i64 ak] 69)).drew=bY at bw bX a0 aF cn⊢;clear aM ae;clear ad ag au c3 c4 t0 t1 t2 G lb aK aL ba aJ aV;have bl:=Z (ct.out bY _ bX.out);have cZ:=Z (show R=.bad bs bk from cX.out);unfold FC at bl;simp only[]at bl;go_wp2_with fail;refine bl.out.mono ?_;rintro e br ⟨rfl,bZ,b0⟩;have c0:=Z bZ;have c1:=Z (AJ a0.out b0);clear bZ b0;go_wp2_with fail;rw[cZ.out];go_ret;exact⟨_,rfl,⟨_,_,_,rfl⟩,c0.out,c1.out⟩
    |ok az d2=>
     obtain⟨aD,dS,dT,dU,c2,eF⟩:=cX.out;subst aD;obtain⟨v,eG,rfl⟩:=c2.ne;have dV:=Z dS;have co:=Z (BC dU (BC c2 dT));clear dS dT dU c2 eF;obtain⟨aa,L,ak⟩:=v;obtain⟨aj,a,cv,h,ap,aH⟩:=bb.out;obtain⟨ad,ag,au,c3,c4⟩:=h.cells;obtain⟨g,K,aI,t9,bE,rfl,aJ,G,aD,t0,t1,t2⟩:=h.Dh;have lb:=h.lb;have bF:=h.lt;have aK:(0:Int)<=(a:Int)/\(a:Int)<((T.length:Nat):Int):=(by omega);have aL:=h.tg.len;obtain⟨LT,aE⟩:=U T.length;have ba:(a:Int)<=500:=(by omega);have dp:=Z h;have cw:=Z (BC ap aH);have bG:=ap.symm.trans aD;injection bG with bH bI;subst bH bI;rw[aE]at ad aK aJ aL;have aV:=Y.frozen h.BF 1;clear h ap aH aD aE bF;simp only[]at t0 t1 t2;go_upto_region 23 with(fail);have aM:Hid (∀F:World,ah.grownBy F none->(F.cell? ⟨rb,0,none⟩=some (.slice (some ⟨g,K,none⟩) LT aI)/\F.cell? ⟨rb,1,none⟩=some (.int .i64 a)/\F.cell? ⟨g,K+a*3,none⟩=some (.int .i64 aa)/\F.cell? ⟨g,K+a*3+1,none⟩=some (.string ⟨L.toArray⟩)/\F.cell? ⟨g,K+a*3+2,none⟩=some (.int .i64 ak))):=
      Z (fun F X=>⟨AH X lb ad,AH X lb ag,AH X G t0,AH X G t1,AH X G t2⟩)
     go_region_held3 (fun F=>F.cell? ⟨rb,0,none⟩=some (.slice (some ⟨g,K,none⟩) LT aI)/\F.cell? ⟨rb,1,none⟩=some (.int .i64 a)/\F.cell? ⟨g,K+a*3,none⟩=some (.int .i64 aa)/\F.cell? ⟨g,K+a*3+1,none⟩=some (.string ⟨L.toArray⟩)/\F.cell? ⟨g,K+a*3+2,none⟩=some (.int .i64 ak))
      (first|go_keep|exact aM.out _ (by repeat' (first|(with_reducible exact AB _ _)|(with_reducible refine Af ?_ ?_ _)|(with_reducible refine AI ?_ G)|(with_reducible refine Ah ?_)|(with_reducible refine AF ?_ _)|omega|(simp;done))))
      (fail)
     have ae:=Ah (AF (AB ah none) (.cells #[.int .i64 aa,.string ⟨L.toArray⟩,.int .i64 ak] 69));have bw:=Z (show Y (ah.alloc (.cells #[.int .i64 aa,.string ⟨L.toArray⟩,.int .i64 ak] 69)).drew ah.heap.size 69 #[.int .i64 aa,.string ⟨L.toArray⟩,.int .i64 ak]from Y.new ah 69 _);have bX:=Z (bb.out.grown ae);have a0:=Z (AJ dR.out (Bt ae));have dW:=Z (Y.grown eE.out ae (by simp));have aF:=AH ae lb c3;have cn:=DZ lb ae.size;generalize (ah.alloc (.cells #[.int .i64 aa,.string ⟨L.toArray⟩,.int .i64 ak] 69)).drew=bY,ah.heap.size=dX at bw bX a0 dW aF cn⊢;clear aM ae;clear ad ag au c3 c4 t0 t1 t2 G lb aK aL ba aJ aV;have aW:bY.cell? ⟨dX,0,none⟩=some (.int .i64 aa):=Y.cell bw.out 0;have aw:bY.cell? ⟨dX,1,none⟩=some (.string ⟨L.toArray⟩):=Y.cell bw.out 1;have ax:=Y.lt bw.out;obtain⟨aB,dY⟩:=U (Fj ⟨aa,L,ak⟩);have bm:=Z dY;clear dY;go_upto_region 24 with(fail);go_cut [7] (fun eH ar=>eH=.bool aB/\bY.grownBy ar none);case first=>
      as_aux_lemma=>
       by_cases al:aa=2
       ·subst al;by_cases O:L=[40]
        ·subst O;have I:=Z (show aB=true from bm.out.symm.trans rfl);go_wp2_with fail;go_meet;exact⟨by rw[I.out],AB _ _⟩
        ·have bd:(L==[40])=false:=Bd O;have I:=Z (show aB=false from bm.out.symm.trans (by show((true&&L==Bz)||(false&&_))=false;rw[show(L==Bz)=false from bd];rfl));clear O;go_wp2_with fail;go_meet;exact⟨by rw[I.out],AB _ _⟩
       ·have cy:((aa:Int)==2)=false:=(by rw[A4];omega);by_cases ay:aa=1
        ·subst ay;have N:aB=Fi.contains L:=(by rw[<-bm.out];rfl);clear al cy;by_cases be:L=[123]
         ·subst be;have I:=Z (show aB=true from N.trans (by decide));clear N;go_wp2_with fail;go_meet;exact⟨by rw[I.out],AB _ _⟩
         have cB:(L==[123])=false:=Bd be;by_cases O:L=[105,102]
         ·subst O;have I:=Z (show aB=true from N.trans (by decide));clear N;go_wp2_with fail;go_meet;exact⟨by rw[I.out],AB _ _⟩
         have cC:(L==[105,102])=false:=Bd O;by_cases ai:L=[119,104,105,108,101]
         ·subst ai;have I:=Z (show aB=true from N.trans (by decide));clear N;go_wp2_with fail;go_meet;exact⟨by rw[I.out],AB _ _⟩
         have cD:(L==[119,104,105,108,101])=false:=Bd ai;by_cases aF:L=[117,110,116,105,108]
         ·subst aF;have I:=Z (show aB=true from N.trans (by decide));clear N;go_wp2_with fail;go_meet;exact⟨by rw[I.out],AB _ _⟩
         have cE:(L==[117,110,116,105,108])=false:=Bd aF;by_cases bf:L=[102,111,114]
         ·subst bf;have I:=Z (show aB=true from N.trans (by decide));clear N;go_wp2_with fail;go_meet;exact⟨by rw[I.out],AB _ _⟩
         have cF:(L==[102,111,114])=false:=Bd bf;by_cases bg:L=[99,97,115,101]
         ·subst bg;have I:=Z (show aB=true from N.trans (by decide));clear N;go_wp2_with fail;go_meet;exact⟨by rw[I.out],AB _ _⟩
         have cG:(L==[99,97,115,101])=false:=Bd bg;have I:=Z (show aB=false from N.trans (by unfold Fi;simp only[List.contains_cons,List.contains_nil,GM,Ph,Dv,Dk,JS,GQ,cB,cC,cD,cE,cF,cG,Bool.or_false]));clear N be O ai aF bf bg;go_wp2_with fail;go_meet;exact⟨by rw[I.out],AB _ _⟩
        ·have bd:((aa:Int)==1)=false:=(by rw[A4];omega);have I:=Z (show aB=false from bm.out.symm.trans (by unfold Fj;rw[show(aa==2)=false from Bd al,show(aa==1)=false from Bd ay];rfl));clear ay al;go_wp2_with fail;go_meet;exact⟨by rw[I.out],AB _ _⟩
     case rest=>
     obtain⟨rfl,aX⟩:=hcut;have c5:=Z (bX.out.grown aX);have a0:=Z (AJ a0.out (Bt aX));have dZ:=Z (Y.grown dW.out aX (by simp));clear aX aW aw ax aF cn;obtain⟨d0,eI⟩:=JH wc;subst eI;cases aB with
     |false=>
      have bl:=Z (ct.out d0 _ c5.out);have cZ:=Z (show R=.bad ak (if aa=4 then 23 else 17)from dV.out.trans (AP (by show¬Fj _=true;rw[bm.out];decide)));unfold FC at bl;simp only[]at bl;go_wp2_with fail;refine bl.out.mono ?_;rintro e br ⟨rfl,bZ,b0⟩;have c0:=Z bZ;have c1:=Z (AJ a0.out b0);clear bZ b0;go_wp2_with fail;rw[cZ.out];go_ret;exact⟨_,rfl,⟨_,_,_,rfl⟩,c0.out,c1.out⟩
     |true=>
      have eJ:=Z (dh.out d2 _ d0 c5.out co.out.1 bm.out);have d3:=Z (show R=(aG d2 (⟨aa,L,ak⟩::eG) []).bind fun x ts ns=>Ao { kind:=15,name:=z,kids:=[x] } ts ns from dV.out.trans (Ai bm.out));go_wp2_with fail;refine eJ.out.mono ?_;intro e bn bL;obtain⟨v,ms,eX,rfl,am,hs,G,a6⟩:=R6 bL;obtain⟨an,ao,rfl⟩:=am.form;have d4:=Z (am.low a0.out.size);have cI:=Z a6;have cp:=Z (Y.grown dZ.out G (fun e=>by injection e with e;subst e;exact Aj (dZ.out.AO.uniq c5.out.AO) (by decide)));have d5:=Z (AJ a0.out G);have bx:=Z hs;clear bL am hs G a6;rcases cI.out with⟨x,eK,O,ai⟩|⟨bs,bk,O,ai⟩
      ·subst O;have c6:=Z ai;obtain⟨aj,a,cv,h,aH,bv⟩:=bx.out;obtain⟨ad,ag,au,c3,c4⟩:=h.cells;have lb:=h.lb;have c7:=Y.frozen h.BF 2;have bz:=BU.Mk h aH dK.out bv;have eL:(d2:Int)<=26:=(by omega);have eM:(1:Int)<=(d2:Int):=(by have:=dK.out;omega);have a1:=AN (AB bn (some rb)) (p:=⟨rb,2,none⟩) (.inl rfl) (.int .i64 ((d2:Int)-1));have aQ:=Z (d4.out.rb a1 bx.out.AO);have cq:=Z (AJ d5.out a1);have bA:=Z (Y.grown cp.out a1 (fun e=>by injection e with e;subst e;exact Aj (cp.out.AO.uniq bx.out.AO) (by decide)));clear h aH bv a1 ai;go_upto_region 30 with(fail);generalize bn.setCell ⟨rb,2,none⟩ (.int .i64 ((d2:Int)-1))=a2 at bz aQ cq bA⊢;have c8:=Z bz;clear ad ag au c3 c4 lb c7 eL eM bz;have c9:=Z (show R=.ok (ms.length:Int) eK (Bf [ms] { kind:=15,name:=z }) by
        have bC:=di.out d2 _ _ _ _ _ co.out.2.1 c6.out;obtain⟨eN,eO,_,_⟩:=bC.ne;rw[d3.out,c6.out,Px aQ.out.2.1 eN,eO];rfl)
       have eP:=Z (show(Bf [ms] { kind:=15,name:=z }).length<=50000 by
        have bC:=di.out d2 _ _ _ _ _ co.out.2.1 c6.out;obtain⟨_,_,_,eY⟩:=bC.ne;rw[Cf];have:=co.out.2.2;simp[BP];omega)
       have b1:=Z (Mz aQ.out.1);have b2:=Z (c8.out.grown (AF (AB a2 none) (.cells #[.slice an ms.length ao] 22)));have a9:=Z (AF cq.out (.cells #[.slice an ms.length ao] 22));have aw:(a2.alloc (.cells #[.slice an ms.length ao] 22)).cell? ⟨a4,1,none⟩=some (.string ⟨z.toArray⟩):=Y.cell (bA.out.alloc _) 1;have ax:=Y.lt (bA.out.alloc (.cells #[.slice an ms.length ao] 22));have b3:=Z aQ.out.2.1;have eQ:=Z (show(Bf [ms] { kind:=15,name:=z }).length<=50001 by rw[Cf];have:=aQ.out.2.2.1;simp[BP];omega);have a3:=Z (dj.out [ms] z _ _ a9.out.size b1.out (fun m aR=>by rw[DA]at aR;subst aR;exact b3.out) (by have:=aQ.out.2.2.1;simp[BP];omega) (by simp));unfold Fo AU sv at a3;simp only[]at a3;have d6:=Z (Dg (ps:=[ms]) (n:= { kind:=15,name:=z }) (fun m aR=>by rw[DA]at aR;subst aR;exact b3.out) (by simp) rfl);generalize af:a2.alloc (.cells #[.slice an ms.length ao] 22)=eR,c':a2.heap.size=eS at b1 b2 a9 aw ax a3;go_wp2_with fail;try rw[af,c']
       refine a3.out.mono ?_;rintro e bt ⟨v,rfl,bB,cr,bo⟩;obtain⟨d7,d8,rfl,_⟩:=bB.form;have eT:=Z (show F2 w bt (Bf [ms] { kind:=15,name:=z }) (.slice d7 (Bf [ms] { kind:=15,name:=z }).length d8)from⟨bB,d6.out,eP.out,fun g G=>E0 a9.out.size (cr g G)⟩);have aO:=Z (b2.out.grown bo);have aP:=Z (AJ a9.out (Bt bo));clear bB cr bo;go_wp2_with fail;rw[c9.out];go_ret;exact⟨_,rfl,eT.out,aO.out,aP.out⟩
      ·subst O;have c9:=Z (show R=.bad bs bk by rw[d3.out,ai];rfl);obtain⟨aj,a,a7,h,bW⟩:=bx.out;obtain⟨ad,ag,au,c3,c4⟩:=h.cells;have lb:=h.lb;have c7:=Y.frozen h.BF 2;have bz:∀x:Int,BU (bn.setCell ⟨rb,2,none⟩ (.int .i64 x)) rb T (.er bs bk):=fun x=>⟨aj,a,x,h.set 2 (.inl rfl) x,bW⟩
       have a1:∀x:Int,bn.grownBy (bn.setCell ⟨rb,2,none⟩ (.int .i64 x)) (some rb):=fun x=>AN (AB bn (some rb)) (p:=⟨rb,2,none⟩) (.inl rfl) (.int .i64 x)
       have eU:=Z (fun x=>BC (bz x) (BC (d4.out.rb (a1 x) bx.out.AO) (BC (AJ d5.out (a1 x)) (Y.grown cp.out (a1 x) (fun e=>by injection e with e;subst e;exact Aj (cp.out.AO.uniq bx.out.AO) (by decide))))));clear h a1 ai bz bW;go_upto_region 30 with(fail);have d9:=eU.out (wrap64 (a7-1));generalize bn.setCell ⟨rb,2,none⟩ (.int .i64 (wrap64 (a7-1)))=a2 at d9⊢;clear ad ag au c3 c4 lb c7;obtain⟨ay,al,d',ea⟩:=d9;have c8:=Z ay;have aQ:=Z al;have cq:=Z d';have bA:=Z ea;clear ay al d' ea;have b1:=Z (Mz aQ.out.1);have b2:=Z (c8.out.grown (AF (AB a2 none) (.cells #[.slice an ms.length ao] 22)));have a9:=Z (AF cq.out (.cells #[.slice an ms.length ao] 22));have aw:(a2.alloc (.cells #[.slice an ms.length ao] 22)).cell? ⟨a4,1,none⟩=some (.string ⟨z.toArray⟩):=Y.cell (bA.out.alloc _) 1;have ax:=Y.lt (bA.out.alloc (.cells #[.slice an ms.length ao] 22));have b3:=Z aQ.out.2.1;have eQ:=Z (show(Bf [ms] { kind:=15,name:=z }).length<=50001 by rw[Cf];have:=aQ.out.2.2.1;simp[BP];omega);have a3:=Z (dj.out [ms] z _ _ a9.out.size b1.out (fun m aR=>by rw[DA]at aR;subst aR;exact b3.out) (by have:=aQ.out.2.2.1;simp[BP];omega) (by simp));unfold Fo AU sv at a3;simp only[]at a3;have d6:=Z (Dg (ps:=[ms]) (n:= { kind:=15,name:=z }) (fun m aR=>by rw[DA]at aR;subst aR;exact b3.out) (by simp) rfl);generalize af:a2.alloc (.cells #[.slice an ms.length ao] 22)=eR,c':a2.heap.size=eS at b1 b2 a9 aw ax a3;go_wp2_with fail;try rw[af,c']
       refine a3.out.mono ?_;rintro e bt ⟨v,rfl,bB,cr,bo⟩;obtain⟨d7,d8,rfl,_⟩:=bB.form;have aO:=Z (b2.out.grown bo);have aP:=Z (AJ a9.out (Bt bo));clear bB cr bo;go_wp2_with fail;rw[c9.out];go_ret;exact⟨_,rfl,⟨_,_,_,rfl⟩,aO.out,aP.out⟩
end Go.Proofs.YtdhfhphbkfgamaaGreat
