/- PrintTells: a part of its proof. -/
import Derived.Test.YtdhfhphbkfgamaaGreatXq
set_option maxRecDepth 100000
set_option maxHeartbeats 64000000
namespace Go.Proofs.YtdhfhphbkfgamaaGreat.Lx
open Go.RowKit
structure RA (w w':World) (v:Value) (acc:List AX):Prop where
 tk:Own w' 69 3 v acc.length (JK acc) 0
 new: ∀b,v.ownBlock=some b→w.heap.size≤b
 gr:w.grownBy w' none
theorem RA.grown {w h z:World} {v:Value} {G:List AX} (F:RA w h v G) (I:h.grownBy z none):RA w z v G:=
 ⟨F.tk.Bl (Az.AL I (fun k hk=>by cases hk):Az D4 h z) (fun _ _ e=>e),F.new,AI F.gr I⟩
theorem RA.alloc {w z:World} {v:Value} {F:List AX} (h:RA w z v F) (o:Obj):RA w (z.alloc o) v F:=⟨h.tk.alloc o,h.new,AF h.gr o⟩
theorem RA.set {w z:World} {v:Value} {F:List AX} (h:RA w z v F) {p:Addr} (G:v.ownBlock≠some p.block) (I:w.heap.size≤p.block) (u:Value):RA w (z.setCell p u) v F:=⟨h.tk.Be G u,h.new,Af h.gr I u⟩
theorem RA.app {w z w':World} {v G:Value} {F:List AX} {x:AX} (h:RA w z v F) (J:Own w' 69 3 G (F.length+1) (JK F++x.cells) 0) (K:Az (fun b=>v.ownBlock=some b) z w') (L: ∀b,G.ownBlock=some b→v.ownBlock=some b∨z.heap.size≤b):RA w w' G (F++[x]):=by
 refine⟨?_,fun b I=>?_,?_⟩
 ·rw[BE,Km];exact J
 ·rcases L b I with e|e
  ·exact h.new b e
  ·exact Ef h.gr.size e
 ·exact((Az.AL h.gr (fun k hk=>by cases hk):Az D4 w z).trans K (fun i M I=>by have:=h.new i I;omega)).grown (fun _ _ h=>h)
theorem RA.post {w w':World} {l:List UInt8} {v:Value} {z:List AX} (h:RA w w' v z):DK w l (.ok z) (.returned (.tuple #[v,.int .i64 0,.int .i64 0])) w':=⟨⟨v,rfl,h.tk,h.new⟩,h.gr⟩
theorem OP {c:UInt8} {r:List UInt8} (h:A4 (c::r)=0):c≠32∧c≠9∧c≠35∧ ¬(c::r).take 2=[92,10]:=by
 rw[Cp]at h;split at h
 ·omega
 ·rename_i F;split at h
  ·omega
  ·rename_i G;split at h
   ·rename_i z;rw[z]at h;simp[List.takeWhile_cons]at h
   ·rename_i z;exact⟨fun e=>F (.inl e),fun e=>F (.inr e),z,G⟩
theorem Pm (l:List UInt8) (w:World) (h:4096<l.length) (z:l.length≤9223372036854775807):Calls Tryz.prog 46 #[sv l] w fun e w'=>DK w l (.err 0 10) e w':=by
 have F:=sz l;have q:decide ((4096:Int)<(l.length:Int))=true:=At (by omega);unfold sv;go_enter Tryz.func46,Tryz.ntmps46;go_wp2_with fail;go_ret3;exact⟨rfl,AB w none⟩
def XP (w:World) (l:List UInt8) (R:Ar):Ending→World→Prop:=fun e w'=>DK w l (KE l R) e w'
theorem Z2o {P:Prop} (h:P:=by
 go_wp2_with fail;go_meet;case rel=>exact⟨rfl,rfl⟩):P:=h
theorem Z2p {P:Prop} (h:P:=by
 have aB:=Z I;clear I F X au aP aQ aV;go_wp2_with fail;go_roundw;case rel=>exact⟨ao,i+1,h,by go_num,by omega,by omega,aM,K.out,by rw[aB.out];exact ap.out⟩
 case measure=>simp[intOf];omega):P:=h
theorem Z2q {P:Prop} (h:P:=by
 go_wp2_with fail;go_roundw;case rel=>exact⟨ao,k,h,rfl,by omega,by omega,aM,K.out,by rw[bw.out];exact bv.out⟩
 case measure=>simp[intOf];omega):P:=h
theorem Z2r {P:Prop} (h:P:=by
 go_wp2_with fail;go_meet;case rel=>exact⟨rfl,bL.out,bM.out,bN.out⟩):P:=h
theorem OU (l:List UInt8) (w:World) (ci:l.length≤4096) (R:Ar) (aU:Dk l (l.length+1) (A4 l) []=R):Calls Tryz.prog 46 #[sv l] w (XP w l R):=by
 have cj:=sz l;have q:decide ((4096:Int)<(l.length:Int))=false:=Aq (by omega);have ck: ∀n,(ByteArray.mk l.toArray).extract n l.length=⟨(l.drop n).toArray⟩:=fun n=>GK l n _ rfl
 have bo:=Z aU;have bp:=Z (fun k w'=>V0 (l.drop k) w' (by rw[Dq];omega));have bq:=Z (fun k w' (hk:k≤l.length)=>Ut (l.drop k) k w' (by rw[Dq];omega) (by rw[Dq];omega));have br:=Z (fun k w'=>Aa (l.drop k) [92,10] w' (by decide) (by rw[Dq];omega));unfold sv at br bp bq;clear aU;unfold sv;go_enter Tryz.func46,Tryz.ntmps46;go_wp2_with fail;go_loopw [5,6] (fun bU az wr=> ∃(f i:Nat) (h:List AX),az=.int .i64 i∧i≤l.length∧l.length<i+f∧h.length≤400∧RA w wr bU h∧Dk l f (i+A4 (l.drop i)) h=R) (fun _ az _=>l.length+1-(intOf az).toNat);case atStart=>exact⟨l.length+1,0,[],rfl,DM _,by omega,by simp,⟨Own.nil _ _ _ _,fun b bV=>by simp[Value.ownBlock]at bV,AB w none⟩,by rw[List.drop_zero,Nat.zero_add];exact bo.out⟩
 case round=>
  obtain⟨ao,i,h,rfl,bW,cl,aM,a1,bs⟩:=hrel;have K:=Z a1;have ap:=Z bs;obtain⟨aq,ar,rfl,cm,cn⟩:=a1.tk.form;clear a1 bs bo;by_cases aN:i<l.length
  ·have bX:decide ((i:Int)<(l.length:Int))=true:=At (by omega);have aO:=BC l i aN;have co:(0:Int)≤i∧(i:Int)<(l.length:Int):=(by omega);have cp:(0:Int)≤i∧(i:Int)≤(l.length:Int):=(by omega);have X:=CC aN;obtain⟨c,F⟩: ∃c,l[i]=c:=⟨_,rfl⟩;rw[F]at aO X;have au:=br.out i;by_cases aP:0<A4 (l.drop i)
   ·have aQ:i<i+A4 (l.drop i):=(by omega);obtain⟨cq,aV,bt⟩:=M1 aQ rfl;rw[F]at bt;rcases bt with⟨aA|aA,I⟩|⟨aA,cr,⟨bY,bu⟩,I⟩|⟨aA,I,a2⟩
    ·subst aA;exact Z2p
    ·subst aA;exact Z2p
    ·subst aA;have a3:=CC bY;rw[bu]at a3;have aR:(l.drop i).take 2=[92,10]:=(by rw[X,a3];rfl);have al:=Z (show∀G,Calls Tryz.prog 66 #[.string ⟨(l.drop i).toArray⟩,.string ⟨#[92,10]⟩] G fun e ah=>e=.returned (.bool true)∧ah=G from fun G=>by have:=au G;rw[show([92,10]:List UInt8).length=2 from rfl,At aR]at this;exact this);have aB:=Z I;clear I F X au aP aQ aV a3 bu aR;go_wp2_with fail;refine(al.out _).mono ?_;rintro e G ⟨rfl,rfl⟩;go_wp2_with fail;go_roundw;case rel=>exact⟨ao,i+2,h,by go_num,by omega,by omega,aM,K.out,by rw[aB.out];exact ap.out⟩
     case measure=>simp[intOf];omega
    ·subst aA;have aR: ¬(l.drop i).take 2=[92,10]:=(by rw[X];intro e;injection e with e _;exact Ai e (by decide));have al:=Z (show∀G,Calls Tryz.prog 66 #[.string ⟨(l.drop i).toArray⟩,.string ⟨#[92,10]⟩] G fun e ah=>e=.returned (.bool false)∧ah=G from fun G=>by have:=au G;rw[show([92,10]:List UInt8).length=2 from rfl,Aq aR]at this;exact this);obtain⟨A,a4⟩: ∃A,i+A4 (l.drop i)=A:=⟨_,rfl⟩;rw[a4]at I a2 aV aQ;have a5:=ap.out;rw[a4]at a5;have bv:=Z a5;have aB:=Z I;have bw:=Z a2;clear I a2 F X au aP aR ap a5 a4;go_wp2_with fail;refine(al.out _).mono ?_;rintro e G ⟨rfl,rfl⟩;go_wp2_with fail;go_loopw [6] (fun az bZ=> ∃k:Nat,az=.int .i64 k∧i≤k∧k≤A∧k+((l.drop k).takeWhile (· !=10)).length=A∧bZ=G) (fun az _=>A+1-(intOf az).toNat);case atStart=>exact⟨i,rfl,BL _,by omega,aB.out,rfl⟩
     case round=>
      obtain⟨k,rfl,cs,ct,aC,rfl⟩:=hrel;by_cases b0:k<A
      ·obtain⟨aW,aw,bx⟩:=QS aC b0;have aX:decide ((k:Int)<(l.length:Int))=true:=At (by omega);have aO:=BC l k aW;have b1:(0:Int)≤k∧(k:Int)<(l.length:Int):=(by omega);obtain⟨c,F⟩: ∃c,l[k]=c:=⟨_,rfl⟩;rw[F]at aO aw;have b2:((c.toNat:Int)==10)=false:=Au (d:=10) aw;have cu:((c.toNat:Int) !=10)=true:=(by simp only[bne,b2];rfl);have b3:=Z bx;clear bx aC F aw;go_wp2_with fail;go_roundw;case rel=>exact⟨k+1,by go_num,by omega,by omega,b3.out,trivial⟩
       case measure=>simp[intOf];omega
      ·obtain rfl:k=A:=by omega
       by_cases aW:k<l.length
       ·have aX:decide ((k:Int)<(l.length:Int))=true:=At (by omega);have aO:=BC l k aW;have b1:(0:Int)≤k∧(k:Int)<(l.length:Int):=(by omega);have bz:l[k]=10:=by
         rw[CC aW,List.takeWhile_cons]at aC;split at aC
         ·simp at aC
         ·rename_i b4;simpa using b4
        rw[bz]at aO;clear aC bz;exact Z2q
       ·have aX:decide ((k:Int)<(l.length:Int))=false:=Aq (by omega);clear aC;exact Z2q
   ·have a6:A4 (l.drop i)=0:=(by omega);have a7:=a6;rw[X]at a7;obtain⟨bA,bB,bC,a8⟩:=OP a7;rw[←X]at a8;have cv:((c.toNat:Int)==32)=false:=Au (d:=32) bA;have cw:((c.toNat:Int)==9)=false:=Au (d:=9) bB;have cx:((c.toNat:Int)==35)=false:=Au (d:=35) bC;have al:=Z (show∀G,Calls Tryz.prog 66 #[.string ⟨(l.drop i).toArray⟩,.string ⟨#[92,10]⟩] G fun e ah=>e=.returned (.bool false)∧ah=G from fun G=>by have:=au G;rw[show([92,10]:List UInt8).length=2 from rfl,Aq a8]at this;exact this);obtain⟨f,rfl⟩: ∃f,ao=f+1:=⟨ao-1,by omega⟩;have L:=ap.out;have bD:i+A4 (l.drop i)=i:=(by omega);rw[bD,Eo,Ah aN]at L;have aD:=fun k s (z:CX (l.drop i)=.tok k s)=>JI (Jw aN) a6 z
    have aI:(l.drop i).getD 0 0=c:=(by rw[X];rfl);have aJ:(l.drop i).getD 1 0=(l.drop (i+1)).getD 0 0:=(by rw[X];rfl);have aK:(l.drop i).length=l.length-i:=Dq;clear bD a6 a7 bA bB bC a8 F X au ap aP;by_cases aL:h.length=400
    ·rw[Ah aL]at L;have ai:=Z L;have b5:((h.length:Int)==400)=true:=(by rw[beq_iff_eq];omega);clear L aD aI aJ aK;go_wp2_with fail;refine(al.out _).mono ?_;rintro e G ⟨rfl,rfl⟩;go_wp2_with fail;go_ret3;show DK w l (KE l R) _ _;rw[←ai.out];exact⟨rfl,K.out.gr⟩
    rw[U aL]at L;have b5:((h.length:Int)==400)=false:=(by rw[beq_eq_false_iff_ne];omega);have cy:h.length<400:=(by omega);have aE:=bp.out i;have aj:=fun w'=>bq.out i w' bW
    obtain⟨S,am⟩: ∃S,DT (l.drop i)=S:=⟨_,rfl⟩;rw[am]at aE;have cz:=sz S;by_cases aw:S=[]
    ·subst aw;have aS:=Z aE;cases ak:De (l.drop i)with
     |more=>
      have W:CX (l.drop i)=.more:=(by unfold CX;rw[U (fun z=>z am),ak]);rw[W]at L;rw[ak]at aj;have aT:=Z aj;have ai:=Z L;clear aE aj L W ak aD aI aJ aK am aL;go_wp2_with fail;refine(al.out _).mono ?_;rintro e G ⟨rfl,rfl⟩;go_wp2_with fail;refine(aS.out _).mono ?_;rintro e ah ⟨rfl,ab⟩;have a9:=Z ab;clear ab;go_wp2_with fail;refine(aT.out _).mono ?_;rintro e b6 ⟨rfl,ax⟩;have a':=Z (AI a9.out ax);clear ax;unfold BM CL;go_wp2_with fail;go_ret3;show DK w l (KE l R) _ _;rw[←ai.out];exact⟨rfl,AF (AI K.out.gr a'.out) _⟩
     |deep a=>
      have W:CX (l.drop i)=.deep a:=(by unfold CX;rw[U (fun z=>z am),ak]);rw[W]at L;rw[ak]at aj;have aT:=Z aj;have ai:=Z L;clear aE aj L W ak aD aI aJ aK am aL;go_wp2_with fail;refine(al.out _).mono ?_;rintro e G ⟨rfl,rfl⟩;go_wp2_with fail;refine(aS.out _).mono ?_;rintro e ah ⟨rfl,ab⟩;have a9:=Z ab;clear ab;go_wp2_with fail;refine(aT.out _).mono ?_;rintro e b6 ⟨rfl,ax⟩;have a':=Z (AI a9.out ax);clear ax;unfold BM CL;go_wp2_with fail;go_quiet (fail);go_wp2_with fail;go_ret3;show DK w l (KE l R) _ _;rw[←ai.out];exact⟨rfl,As (AF (AI K.out.gr a'.out) _) _⟩
     |ok n=>
      obtain⟨IO,ba⟩: ∃IO,Nq (l.drop i) n=IO:=⟨_,rfl⟩;obtain⟨J,aY⟩: ∃J,(l.drop i).take n=J:=⟨_,rfl⟩;have W:CX (l.drop i)=.tok (if IO=true then 3 else 1) J:=(by unfold CX;rw[U (fun z=>z am),ak,←ba,←aY]);have b7:=ME _ (l.drop i) n rfl ak;obtain⟨bE,bF⟩:=aD _ _ W;have bG:J.length=n:=(by rw[←aY,List.length_take];omega);rw[W]at L;rw[ak]at aj;have bb:=Of l i n (by omega);rw[aY]at bb;have bc:i+n≤l.length:=(by omega);have cA:(ByteArray.mk l.toArray).extract i ((i:Int)+(n:Int)).toNat=⟨J.toArray⟩:=(by rw[show((i:Int)+(n:Int)).toNat=i+n from by omega,bb]);have cB:(0:Int)≤i∧(i:Int)≤(i:Int)+n∧(i:Int)+n≤(l.length:Int):=(by omega);have bH:Dk l f (i+n+A4 (l.drop (i+n))) (h++[⟨if IO=true then 3 else 1,J,i⟩])=R:=(by rw[←bG];exact L);have cC:1≤n:=(by omega);obtain⟨ac,aZ⟩: ∃ac:UInt8,(l.drop (i+1)).getD 0 0=ac:=⟨_,rfl⟩;have N:IO=decide (n=1∧48≤c.toNat∧c.toNat≤57∧1<l.length-i∧(ac=60∨ac=62)):=by
       rw[←ba];unfold Nq;rw[aI,aJ,aK,aZ]
      have bI: ¬i+1<l.length→ac=0:=fun z=>by rw[←aZ,List.drop_eq_nil_of_le (by omega)];rfl
      have bJ: ∀z:i+1<l.length,l[i+1]=ac:=fun z=>by rw[←aZ,CC z];rfl
      have cD:=sz J;have aT:=Z aj;have ai:=Z bH;have b8:=Z N;have bd:=Z bI;have b9:=Z bJ;clear aE aj L W ak aD aI aJ aK am aL ba aY bH bE bF bG bb aZ N bI bJ b7 bc;have bc:i+n≤l.length:=(by omega);go_wp2_with fail;refine(al.out _).mono ?_;rintro e G ⟨rfl,rfl⟩;go_wp2_with fail;refine(aS.out _).mono ?_;rintro e ah ⟨rfl,ab⟩;have be:=Z (K.out.grown ab);clear ab;go_wp2_with fail;refine(aT.out _).mono ?_;rintro e M ⟨rfl,ax⟩;have a0:=Z (be.out.grown ax);clear ax;unfold BM CL;go_upto_if 96 with(fail);go_cut [11] (fun v wc=>v=.int .u8 ac.toNat∧RA w wc (.slice aq h.length ar) h∧Y wc M.heap.size 108 #[.int .i64 n,.bool false,.bool false,.int .i64 0]∧Y wc (M.heap.size+1) 69 #[.int .i64 1,.string ⟨J.toArray⟩,.int .i64 i]);case first=>
       have bK:RA w ((M.alloc (.cells #[.int .i64 n,.bool false,.bool false,.int .i64 0] 108)).alloc (.cells #[.int .i64 1,.string ⟨J.toArray⟩,.int .i64 i] 69)) (.slice aq h.length ar) h:=(a0.out.alloc _).alloc _;have ay:=(Y.new M 108 #[.int .i64 n,.bool false,.bool false,.int .i64 0]).alloc (.cells #[.int .i64 1,.string ⟨J.toArray⟩,.int .i64 i] 69);have ad:=Y.new (M.alloc (.cells #[.int .i64 n,.bool false,.bool false,.int .i64 0] 108)) 69 #[.int .i64 1,.string ⟨J.toArray⟩,.int .i64 i];rw[World.size_alloc]at ad;have bL:=Z bK;have bM:=Z ay;have bN:=Z ad;clear bK ay ad;by_cases bf:i+1<l.length
       ·have aX:decide ((i:Int)+1<(l.length:Int))=true:=At (by omega);have b':=BC l (i+1) bf;rw[b9.out bf]at b';have cE:(0:Int)≤(i:Int)+1∧(i:Int)+1<(l.length:Int):=(by omega);exact Z2r
       ·have aX:decide ((i:Int)+1<(l.length:Int))=false:=Aq (by omega);have ca:=bd.out bf;subst ca;exact Z2r
      case rest=>
       obtain⟨rfl,bO,ay,ad⟩:=hcut;have bP:=Z bO;have bQ:=Z ay;have cF:=Z ad;have cG:=Y.cell ay 0;have cH:=Y.frozen ay 0;have lb:=Y.lt ay;have cI:=Y.cell ad 0;have cJ:=Y.cell ad 1;have cK:=Y.cell ad 2;have cL:=Y.frozen ad 0;have cM:=Y.lt ad;clear bO ay ad;go_upto_region 29 with(fail);go_cut [119] (fun v G=>v=.bool IO∧G=wc);case first=>
        have N:=b8.out;by_cases bg:n=1
        ·subst bg;by_cases bh:48≤c.toNat
         ·have cb:decide ((48:Int)≤(c.toNat:Int))=true:=At (by omega);by_cases bi:c.toNat≤57
          ·have cc:decide ((c.toNat:Int)≤57)=true:=At (by omega);by_cases aF:ac=60
           ·have bj:1<l.length-i:=by
             apply Classical.byContradiction;intro z;rw[bd.out (by omega)]at aF;exact Ai aF (by decide)
            rw[At ⟨rfl,bh,bi,bj,.inl aF⟩]at N;subst aF N;exact Z2o
           ·by_cases aG:ac=62
            ·have bj:1<l.length-i:=by
              apply Classical.byContradiction;intro z;rw[bd.out (by omega)]at aG;exact Ai aG (by decide)
             rw[At ⟨rfl,bh,bi,bj,.inr aG⟩]at N;subst aG N;exact Z2o
            ·have cN:((ac.toNat:Int)==60)=false:=Au (d:=60) aF;have cO:((ac.toNat:Int)==62)=false:=Au (d:=62) aG;rw[Aq (fun z=>by rcases z.2.2.2.2 with z|z;exact aF z;exact aG z)]at N;subst N;clear aF aG;exact Z2o
          ·have cc:decide ((c.toNat:Int)≤57)=false:=Aq (by omega);rw[Aq (fun z=>bi z.2.2.1)]at N;subst N;exact Z2o
         ·have cb:decide ((48:Int)≤(c.toNat:Int))=false:=Aq (by omega);rw[Aq (fun z=>bh z.2.1)]at N;subst N;exact Z2o
        ·have cP:((n:Int)==1)=false:=(by rw[beq_eq_false_iff_ne];omega);rw[Aq (fun z=>bg z.1)]at N;subst N;clear bg;exact Z2o
       case rest=>
        obtain⟨rfl,rfl⟩:=hcut;have bR:(Value.slice aq h.length ar).ownBlock≠some M.heap.size:=fun e=>by have:=a0.out.tk.lt e;omega
        have bS:(Value.slice aq h.length ar).ownBlock≠some (M.heap.size+1):=fun e=>by have:=a0.out.tk.lt e;omega
        have cQ:w.heap.size≤M.heap.size+1:=(by have:=a0.out.gr.size;omega);have bT:=Z bR;have cd:=Z bS;clear bR bS;cases IO with
        |true=>
         have ae:=Z (RA.alloc (bP.out.set (p:=⟨M.heap.size+1,0,none⟩) cd.out (by show w.heap.size≤M.heap.size+1;omega) (.int .i64 3)) (.cells #[.int .i64 3,.string ⟨J.toArray⟩,.int .i64 i] 69));have aa:=Own.made (wc.setCell ⟨M.heap.size+1,0,none⟩ (.int .i64 3)) #[.int .i64 3,.string ⟨J.toArray⟩,.int .i64 i] 69 3 1 0 rfl (by unfold maxLen;omega);rw[World.size_setCell]at aa;have af:=Own.src (P:=Tryz.prog) (tx:=60) (e':=69) aa (by kernel_rfl) (by
          intro u ag;simp only[List.mem_cons,List.not_mem_nil,or_false]at ag;rcases ag with rfl|rfl|rfl<;>rfl)
         have aH:=Z af;clear af aa;go_wp2_with (at_builtin;refine AU 69 (.agg #[.int .i64 0,.string ⟨#[]⟩,.int .i64 0]) 3 32 Tryz.underlying60 bk rfl (.slice aq h.length ar) h.length (JK h) 0 _ 1 [.int .i64 3,.string ⟨J.toArray⟩,.int .i64 i] rfl rfl ae.out.tk (by omega) aH.out (by unfold maxLen;omega) (by omega) ?_;intro bl w' O F I _;obtain⟨bm,bn,rfl,_,_⟩:=Own.form O;(have K:=Z (RA.app (x:=⟨3,J,i⟩) ae.out O F I));(have an:Y w' M.heap.size 108 #[.int .i64 n,.bool false,.bool false,.int .i64 0]:=Y.Bl (Y.alloc (Y.Be bQ.out (p:=⟨M.heap.size+1,0,none⟩) (by show M.heap.size≠M.heap.size+1;omega) _) _) F (fun e=>bT.out e));(have ce:=Y.cell an 0);(have cf:=Y.frozen an 0);(have cg:=Y.lt an);(clear an);(clear O F I));go_roundw;case rel=>exact⟨f,i+n,h++[⟨3,J,i⟩],by go_num,by omega,by omega,by rw[BE];simp;omega,K.out,ai.out⟩
         case measure=>simp[intOf];omega
        |false=>
         have ae:=Z (RA.alloc bP.out (.cells #[.int .i64 1,.string ⟨J.toArray⟩,.int .i64 i] 69));have aa:=Own.made (wc) #[.int .i64 1,.string ⟨J.toArray⟩,.int .i64 i] 69 3 1 0 rfl (by unfold maxLen;omega);have af:=Own.src (P:=Tryz.prog) (tx:=60) (e':=69) aa (by kernel_rfl) (by
          intro u ag;simp only[List.mem_cons,List.not_mem_nil,or_false]at ag;rcases ag with rfl|rfl|rfl<;>rfl)
         have aH:=Z af;clear af aa;go_wp2_with (at_builtin;refine AU 69 (.agg #[.int .i64 0,.string ⟨#[]⟩,.int .i64 0]) 3 32 Tryz.underlying60 bk rfl (.slice aq h.length ar) h.length (JK h) 0 _ 1 [.int .i64 1,.string ⟨J.toArray⟩,.int .i64 i] rfl rfl ae.out.tk (by omega) aH.out (by unfold maxLen;omega) (by omega) ?_;intro bl w' O F I _;obtain⟨bm,bn,rfl,_,_⟩:=Own.form O;(have K:=Z (RA.app (x:=⟨1,J,i⟩) ae.out O F I));(have an:Y w' M.heap.size 108 #[.int .i64 n,.bool false,.bool false,.int .i64 0]:=Y.Bl (Y.alloc (bQ.out) _) F (fun e=>bT.out e));(have ce:=Y.cell an 0);(have cf:=Y.frozen an 0);(have cg:=Y.lt an);(clear an);(clear O F I));go_roundw;case rel=>exact⟨f,i+n,h++[⟨1,J,i⟩],by go_num,by omega,by omega,by rw[BE];simp;omega,K.out,ai.out⟩
         case measure=>simp[intOf];omega
    ·have W:CX (l.drop i)=.tok 2 S:=(by unfold CX;rw[am,Ah aw]);obtain⟨bE,bF⟩:=aD _ _ W;rw[W]at L;have cR:S.isEmpty=false:=(by cases S with|nil=>exact Ai rfl aw|cons=>rfl);have bc:i+S.length≤l.length:=(by omega);have aS:=Z aE;have ai:=Z L;clear aE aj L W aD aI aJ aK am aL;go_wp2_with fail;refine(al.out _).mono ?_;rintro e G ⟨rfl,rfl⟩;go_wp2_with fail;refine(aS.out _).mono ?_;rintro e ah ⟨rfl,ab⟩;have be:=Z (K.out.grown ab);clear ab aw;have ae:=Z (RA.alloc be.out (.cells #[.int .i64 2,.string ⟨S.toArray⟩,.int .i64 i] 69));have aa:=Own.made (ah) #[.int .i64 2,.string ⟨S.toArray⟩,.int .i64 i] 69 3 1 0 rfl (by unfold maxLen;omega);have af:=Own.src (P:=Tryz.prog) (tx:=60) (e':=69) aa (by kernel_rfl) (by
      intro u ag;simp only[List.mem_cons,List.not_mem_nil,or_false]at ag;rcases ag with rfl|rfl|rfl<;>rfl)
     have aH:=Z af;clear af aa;go_wp2_with (at_builtin;refine AU 69 (.agg #[.int .i64 0,.string ⟨#[]⟩,.int .i64 0]) 3 32 Tryz.underlying60 bk rfl (.slice aq h.length ar) h.length (JK h) 0 _ 1 [.int .i64 2,.string ⟨S.toArray⟩,.int .i64 i] rfl rfl ae.out.tk (by omega) aH.out (by unfold maxLen;omega) (by omega) ?_;intro bl w' O F I _;obtain⟨bm,bn,rfl,_,_⟩:=Own.form O;(have K:=Z (RA.app (x:=⟨2,S,i⟩) ae.out O F I));(clear O F I));go_roundw;case rel=>exact⟨f,i+S.length,h++[⟨2,S,i⟩],by go_num,by omega,by omega,by rw[BE];simp;omega,K.out,ai.out⟩
     case measure=>simp[intOf];omega
  ·have bX:decide ((i:Int)<(l.length:Int))=false:=Aq (by omega);have aU:R=.ok h:=by
    have:=ap.out;rw[List.drop_eq_nil_of_le (by omega),Dv,Nat.add_zero]at this;cases ao with
    |zero=>exact this.symm
    |succ f=>rw[Eo,U aN]at this;exact this.symm
   subst aU;have ae:=Z (RA.alloc K.out (.cells #[.int .i64 4,.string ⟨#[]⟩,.int .i64 l.length] 69));have aa:=Own.made (wr) #[.int .i64 4,.string ⟨#[]⟩,.int .i64 l.length] 69 3 1 0 rfl (by unfold maxLen;omega);have af:=Own.src (P:=Tryz.prog) (tx:=60) (e':=69) aa (by kernel_rfl) (by
    intro u ag;simp only[List.mem_cons,List.not_mem_nil,or_false]at ag;rcases ag with rfl|rfl|rfl<;>rfl)
   have aH:=Z af;clear af aa;go_wp2_with (at_builtin;refine AU 69 (.agg #[.int .i64 0,.string ⟨#[]⟩,.int .i64 0]) 3 32 Tryz.underlying60 bk rfl (.slice aq h.length ar) h.length (JK h) 0 _ 1 [.int .i64 4,.string ⟨#[]⟩,.int .i64 l.length] rfl rfl ae.out.tk (by omega) aH.out (by unfold maxLen;omega) (by omega) ?_;intro bl w' O F I _;obtain⟨bm,bn,rfl,_,_⟩:=Own.form O;(have ch:=Z (RA.app (x:=⟨4,[],l.length⟩) ae.out O F I));(clear O F I));go_ret3;exact ch.out.post
theorem Wh (l:List UInt8) (w:World) (z:l.length≤9223372036854775807):Calls Tryz.prog 46 #[sv l] w fun e w'=>DK w l (Fp l) e w':=by
 by_cases h:4096<l.length
 ·have:Fp l=.err 0 10:=(by unfold Fp;rw[Ah h]);rw[this];exact Pm l w h z
 ·rw[Kp l h];exact OU l w (by omega) _ rfl
end Go.Proofs.YtdhfhphbkfgamaaGreat.Lx
