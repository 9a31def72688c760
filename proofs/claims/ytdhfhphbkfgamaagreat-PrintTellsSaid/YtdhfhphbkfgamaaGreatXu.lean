/- A part. -/
import Derived.Test.YtdhfhphbkfgamaaGreatXq
set_option maxRecDepth 100000
set_option linter.all false
set_option maxHeartbeats 0
namespace Go.Proofs.YtdhfhphbkfgamaaGreat.Lx
open Go.RowKit Proofs.Tryz
structure RA(w w':World)(v:Value)(acc:List AY):Prop where
 tk:Own w' 69 3 v acc.length (Jo acc) 0
 new:∀b,v.ownBlock=some b->w.heap.size<=b
 gr:w.grownBy w' none
theorem RA.grown{w h z:World}{v:Value}{G:List AY}(F:RA w h v G)(I:h.grownBy z none):RA w z v G:=
 ⟨F.tk.Bo (Az.AL I (fun k hk=>by cases hk):Az EH h z) (fun _ _ e=>e),F.new,AI F.gr I⟩
theorem RA.alloc{w z:World}{v:Value}{F:List AY}(h:RA w z v F)(o:Obj):RA w (z.alloc o) v F:=⟨h.tk.alloc o,h.new,AF h.gr o⟩
theorem RA.set{w z:World}{v:Value}{F:List AY}(h:RA w z v F){p:Addr}(G:v.ownBlock≠some p.block)(I:w.heap.size<=p.block)(u:Value):RA w (z.setCell p u) v F:=⟨h.tk.Bi G u,h.new,Af h.gr I u⟩
theorem RA.app{w z w':World}{v G:Value}{F:List AY}{x:AY}(h:RA w z v F)(J:Own w' 69 3 G (F.length+1) (Jo F++x.cells) 0)(K:Az (fun b=>v.ownBlock=some b) z w')(L:∀b,G.ownBlock=some b->v.ownBlock=some b\/z.heap.size<=b):RA w w' G (F++[x]):=by
 refine⟨?_,fun b I=>?_,?_⟩
 ·rw[BG,LH];exact J
 ·rcases L b I with e|e
  ·exact h.new b e
  ·exact E0 h.gr.size e
 ·exact((Az.AL h.gr (fun k hk=>by cases hk):Az EH w z).trans K (fun i M I=>by have:=h.new i I;omega)).grown (fun _ _ h=>h)
theorem RA.post{w w':World}{l:List UInt8}{v:Value}{z:List AY}(h:RA w w' v z):DV w l (.ok z) (.returned (.tuple #[v,.int .i64 0,.int .i64 0])) w':=⟨⟨v,rfl,h.tk,h.new⟩,h.gr⟩
theorem OU{c:UInt8}{r:List UInt8}(h:A6 (c::r)=0):c≠32/\c≠9/\c≠35/\ ¬(c::r).take 2=[92,10]:=by
 rw[Cu]at h;split at h
 ·omega
 ·rename_i F;split at h
  ·omega
  ·rename_i G;split at h
   ·rename_i z;rw[z]at h;simp[List.takeWhile_cons]at h
   ·rename_i z;exact⟨fun e=>F (.inl e),fun e=>F (.inr e),z,G⟩
theorem QY(l:List UInt8)(w:World)(h:4096<l.length)(z:l.length<=9223372036854775807):Calls prog 46 #[sv l] w fun e w'=>DV w l (.err 0 10) e w':=by
 have F:=sz l;have q:decide ((4096:Int)<(l.length:Int))=true:=Au (by omega);unfold sv;go_enter func46,ntmps46;go_wp2_with fail;go_ret3;exact⟨rfl,AB w none⟩
def Xl(w:World)(l:List UInt8)(R:Ar):Ending->World->Prop:=fun e w'=>DV w l (LS l R) e w'
theorem Ob(l:List UInt8)(w:World)(ch:l.length<=4096)(R:Ar)(aU:D3 l (l.length+1) (A6 l) []=R):Calls prog 46 #[sv l] w (Xl w l R):=by
 have ci:=sz l;have q:decide ((4096:Int)<(l.length:Int))=false:=As (by omega);have cj:∀n,(ByteArray.mk l.toArray).extract n l.length=⟨(l.drop n).toArray⟩:=fun n=>Gf l n _ rfl
 have bn:=Z aU;have bo:=Z (fun k w'=>WX (l.drop k) w' (by rw[D8];omega));have bp:=Z (fun k w' (hk:k<=l.length)=>V9 (l.drop k) k w' (by rw[D8];omega) (by rw[D8];omega));have bq:=Z (fun k w'=>Ab (l.drop k) [92,10] w' (by decide) (by rw[D8];omega));unfold sv at bq bo bp;clear aU;unfold sv;go_enter func46,ntmps46;go_wp2_with fail;go_loopw [5,6] (fun bT az wr=> ∃(f i:Nat) (h:List AY),az=.int .i64 i/\i<=l.length/\l.length<i+f/\h.length<=400/\RA w wr bT h/\D3 l f (i+A6 (l.drop i)) h=R) (fun _ az _=>l.length+1-(intOf az).toNat);case atStart=>exact⟨l.length+1,0,[],rfl,DD _,by omega,by simp,⟨Own.nil _ _ _ _,fun b bU=>by simp[Value.ownBlock]at bU,AB w none⟩,by rw[List.drop_zero,Dc];exact bn.out⟩
 case round=>
  obtain⟨ao,i,h,rfl,bV,ck,aM,a1,br⟩:=hrel;have K:=Z a1;have ap:=Z br;obtain⟨aq,ar,rfl,cl,cm⟩:=a1.tk.form;clear a1 br bn;by_cases aN:i<l.length
  ·have bW:decide ((i:Int)<(l.length:Int))=true:=Au (by omega);have aO:=BE l i aN;have cn:(0:Int)<=i/\(i:Int)<(l.length:Int):=(by omega);have co:(0:Int)<=i/\(i:Int)<=(l.length:Int):=(by omega);have X:=CF aN;obtain⟨c,F⟩:=U (l[i]);rw[F]at aO X;have au:=bq.out i;by_cases aP:0<A6 (l.drop i)
   ·have aQ:i<i+A6 (l.drop i):=(by omega);obtain⟨cp,aV,bs⟩:=Nz aQ rfl;rw[F]at bs;rcases bs with⟨aA|aA,I⟩|⟨aA,cq,⟨bX,bt⟩,I⟩|⟨aA,I,a2⟩
    ·subst aA;have aB:=Z I;clear I F X au aP aQ aV;go_wp2_with fail;go_roundw;case rel=>exact⟨ao,i+1,h,by go_num,by omega,by omega,aM,K.out,by rw[aB.out];exact ap.out⟩
     case measure=>simp[intOf];omega
    ·subst aA;have aB:=Z I;clear I F X au aP aQ aV;go_wp2_with fail;go_roundw;case rel=>exact⟨ao,i+1,h,by go_num,by omega,by omega,aM,K.out,by rw[aB.out];exact ap.out⟩
     case measure=>simp[intOf];omega
    ·subst aA;have a3:=CF bX;rw[bt]at a3;have aR:(l.drop i).take 2=[92,10]:=(by rw[X,a3];rfl);have al:=Z (show∀G,Calls prog 66 #[.string ⟨(l.drop i).toArray⟩,.string ⟨#[92,10]⟩] G fun e ah=>e=.returned (.bool true)/\ah=G from fun G=>by have:=au G;rw[show([92,10]:List UInt8).length=2 from rfl,Au aR]at this;exact this);have aB:=Z I;clear I F X au aP aQ aV a3 bt aR;go_wp2_with fail;refine(al.out _).mono ?_;rintro e G ⟨rfl,rfl⟩;go_wp2_with fail;go_roundw;case rel=>exact⟨ao,i+2,h,by go_num,by omega,by omega,aM,K.out,by rw[aB.out];exact ap.out⟩
     case measure=>simp[intOf];omega
    ·subst aA;have aR:¬(l.drop i).take 2=[92,10]:=(by rw[X];intro e;injection e with e _;exact Aj e (by decide));have al:=Z (show∀G,Calls prog 66 #[.string ⟨(l.drop i).toArray⟩,.string ⟨#[92,10]⟩] G fun e ah=>e=.returned (.bool false)/\ah=G from fun G=>by have:=au G;rw[show([92,10]:List UInt8).length=2 from rfl,As aR]at this;exact this);obtain⟨A,a4⟩:=U (i+A6 (l.drop i));rw[a4]at I a2 aV aQ;have a5:=ap.out;rw[a4]at a5;have bu:=Z a5;have aB:=Z I;have bv:=Z a2;clear I a2 F X au aP aR ap a5 a4;go_wp2_with fail;refine(al.out _).mono ?_;rintro e G ⟨rfl,rfl⟩;go_wp2_with fail;go_loopw [6] (fun az bY=> ∃k:Nat,az=.int .i64 k/\i<=k/\k<=A/\k+((l.drop k).takeWhile (· !=10)).length=A/\bY=G) (fun az _=>A+1-(intOf az).toNat);case atStart=>exact⟨i,rfl,BN _,by omega,aB.out,rfl⟩
     case round=>
      obtain⟨k,rfl,cr,cs,aC,rfl⟩:=hrel;by_cases bZ:k<A
      ·obtain⟨aW,aw,bw⟩:=Q8 aC bZ;have aX:decide ((k:Int)<(l.length:Int))=true:=Au (by omega);have aO:=BE l k aW;have b0:(0:Int)<=k/\(k:Int)<(l.length:Int):=(by omega);obtain⟨c,F⟩:=U (l[k]);rw[F]at aO aw;have b1:((c.toNat:Int)==10)=false:=Aw (d:=10) aw;have ct:((c.toNat:Int) !=10)=true:=(by simp only[bne,b1];rfl);have b2:=Z bw;clear bw aC F aw;go_wp2_with fail;go_roundw;case rel=>exact⟨k+1,by go_num,by omega,by omega,b2.out,trivial⟩
       case measure=>simp[intOf];omega
      ·obtain rfl:k=A:=by omega
       by_cases aW:k<l.length
       ·have aX:decide ((k:Int)<(l.length:Int))=true:=Au (by omega);have aO:=BE l k aW;have b0:(0:Int)<=k/\(k:Int)<(l.length:Int):=(by omega);have bx:l[k]=10:=by
         rw[CF aW,List.takeWhile_cons]at aC;split at aC
         ·simp at aC
         ·rename_i b3;simpa using b3
        rw[bx]at aO;clear aC bx;go_wp2_with fail;go_roundw;case rel=>exact⟨ao,k,h,rfl,by omega,by omega,aM,K.out,by rw[bv.out];exact bu.out⟩
        case measure=>simp[intOf];omega
       ·have aX:decide ((k:Int)<(l.length:Int))=false:=As (by omega);clear aC;go_wp2_with fail;go_roundw;case rel=>exact⟨ao,k,h,rfl,by omega,by omega,aM,K.out,by rw[bv.out];exact bu.out⟩
        case measure=>simp[intOf];omega
   ·have a6:A6 (l.drop i)=0:=(by omega);have a7:=a6;rw[X]at a7;obtain⟨bz,bA,bB,a8⟩:=OU a7;rw[<-X]at a8;have cu:((c.toNat:Int)==32)=false:=Aw (d:=32) bz;have cv:((c.toNat:Int)==9)=false:=Aw (d:=9) bA;have cw:((c.toNat:Int)==35)=false:=Aw (d:=35) bB;have al:=Z (show∀G,Calls prog 66 #[.string ⟨(l.drop i).toArray⟩,.string ⟨#[92,10]⟩] G fun e ah=>e=.returned (.bool false)/\ah=G from fun G=>by have:=au G;rw[show([92,10]:List UInt8).length=2 from rfl,As a8]at this;exact this);obtain⟨f,rfl⟩:∃f,ao=f+1:=⟨ao-1,by omega⟩;have L:=ap.out;have bC:i+A6 (l.drop i)=i:=(by omega);rw[bC,FA,Ai aN]at L;have aD:=fun k s (z:Ce (l.drop i)=.tok k s)=>Jj (KW aN) a6 z
    have aI:(l.drop i).getD 0 0=c:=(by rw[X];rfl);have aJ:(l.drop i).getD 1 0=(l.drop (i+1)).getD 0 0:=(by rw[X];rfl);have aK:(l.drop i).length=l.length-i:=D8;clear bC a6 a7 bz bA bB a8 F X au ap aP;by_cases aL:h.length=400
    ·rw[Ai aL]at L;have ai:=Z L;have b4:((h.length:Int)==400)=true:=(by rw[DQ];omega);clear L aD aI aJ aK;go_wp2_with fail;refine(al.out _).mono ?_;rintro e G ⟨rfl,rfl⟩;go_wp2_with fail;go_ret3;show DV w l (LS l R) _ _;rw[<-ai.out];exact⟨rfl,K.out.gr⟩
    rw[AP aL]at L;have b4:((h.length:Int)==400)=false:=(by rw[A4];omega);have cx:h.length<400:=(by omega);have aE:=bo.out i;have aj:=fun w'=>bp.out i w' bV
    obtain⟨S,am⟩:=U (De (l.drop i));rw[am]at aE;have cy:=sz S;by_cases aw:S=[]
    ·subst aw;have aS:=Z aE;cases ak:Dn (l.drop i)with
     |more=>
      have W:Ce (l.drop i)=.more:=(by unfold Ce;rw[AP (fun z=>z am),ak]);rw[W]at L;rw[ak]at aj;have aT:=Z aj;have ai:=Z L;clear aE aj L W ak aD aI aJ aK am aL;go_wp2_with fail;refine(al.out _).mono ?_;rintro e G ⟨rfl,rfl⟩;go_wp2_with fail;refine(aS.out _).mono ?_;rintro e ah ⟨rfl,ab⟩;have a9:=Z ab;clear ab;go_wp2_with fail;refine(aT.out _).mono ?_;rintro e b5 ⟨rfl,ax⟩;have a':=Z (AI a9.out ax);clear ax;unfold BO CP;go_wp2_with fail;go_ret3;show DV w l (LS l R) _ _;rw[<-ai.out];exact⟨rfl,AF (AI K.out.gr a'.out) _⟩
     |deep a=>
      have W:Ce (l.drop i)=.deep a:=(by unfold Ce;rw[AP (fun z=>z am),ak]);rw[W]at L;rw[ak]at aj;have aT:=Z aj;have ai:=Z L;clear aE aj L W ak aD aI aJ aK am aL;go_wp2_with fail;refine(al.out _).mono ?_;rintro e G ⟨rfl,rfl⟩;go_wp2_with fail;refine(aS.out _).mono ?_;rintro e ah ⟨rfl,ab⟩;have a9:=Z ab;clear ab;go_wp2_with fail;refine(aT.out _).mono ?_;rintro e b5 ⟨rfl,ax⟩;have a':=Z (AI a9.out ax);clear ax;unfold BO CP;go_wp2_with fail;go_quiet (fail);go_wp2_with fail;go_ret3;show DV w l (LS l R) _ _;rw[<-ai.out];exact⟨rfl,At (AF (AI K.out.gr a'.out) _) _⟩
     |ok n=>
      obtain⟨Iz,ba⟩:=U (PB (l.drop i) n);obtain⟨J,aY⟩:=U ((l.drop i).take n);have W:Ce (l.drop i)=.tok (if Iz=true then 3 else 1) J:=(by unfold Ce;rw[AP (fun z=>z am),ak,<-ba,<-aY]);have b6:=Mp _ (l.drop i) n rfl ak;obtain⟨bD,bE⟩:=aD _ _ W;have bF:J.length=n:=(by rw[<-aY,Fw];omega);rw[W]at L;rw[ak]at aj;have bb:=Pm l i n (by omega);rw[aY]at bb;have bc:i+n<=l.length:=(by omega);have cz:(ByteArray.mk l.toArray).extract i ((i:Int)+(n:Int)).toNat=⟨J.toArray⟩:=(by rw[show((i:Int)+(n:Int)).toNat=i+n from by omega,bb]);have cA:(0:Int)<=i/\(i:Int)<=(i:Int)+n/\(i:Int)+n<=(l.length:Int):=(by omega);have bG:D3 l f (i+n+A6 (l.drop (i+n))) (h++[⟨if Iz=true then 3 else 1,J,i⟩])=R:=(by rw[<-bF];exact L);have cB:1<=n:=(by omega);obtain⟨ac,aZ⟩:∃ac:UInt8,(l.drop (i+1)).getD 0 0=ac:=⟨_,rfl⟩;have N:Iz=decide (n=1/\48<=c.toNat/\c.toNat<=57/\1<l.length-i/\(ac=60\/ac=62)):=by
       rw[<-ba];unfold PB;rw[aI,aJ,aK,aZ]
      have bH:¬i+1<l.length->ac=0:=fun z=>by rw[<-aZ,IG (by omega)];rfl
      have bI:∀z:i+1<l.length,l[i+1]=ac:=fun z=>by rw[<-aZ,CF z];rfl
      have cC:=sz J;have aT:=Z aj;have ai:=Z bG;have b7:=Z N;have bd:=Z bH;have b8:=Z bI;clear aE aj L W ak aD aI aJ aK am aL ba aY bG bD bE bF bb aZ N bH bI b6 bc;have bc:i+n<=l.length:=(by omega);go_wp2_with fail;refine(al.out _).mono ?_;rintro e G ⟨rfl,rfl⟩;go_wp2_with fail;refine(aS.out _).mono ?_;rintro e ah ⟨rfl,ab⟩;have be:=Z (K.out.grown ab);clear ab;go_wp2_with fail;refine(aT.out _).mono ?_;rintro e M ⟨rfl,ax⟩;have a0:=Z (be.out.grown ax);clear ax;unfold BO CP;go_upto_if 96 with(fail);go_cut [11] (fun v wc=>v=.int .u8 ac.toNat/\RA w wc (.slice aq h.length ar) h/\Y wc M.heap.size 108 #[.int .i64 n,.bool false,.bool false,.int .i64 0]/\Y wc (M.heap.size+1) 69 #[.int .i64 1,.string ⟨J.toArray⟩,.int .i64 i]);case first=>
       have bJ:RA w ((M.alloc (.cells #[.int .i64 n,.bool false,.bool false,.int .i64 0] 108)).alloc (.cells #[.int .i64 1,.string ⟨J.toArray⟩,.int .i64 i] 69)) (.slice aq h.length ar) h:=(a0.out.alloc _).alloc _;have ay:=(Y.new M 108 #[.int .i64 n,.bool false,.bool false,.int .i64 0]).alloc (.cells #[.int .i64 1,.string ⟨J.toArray⟩,.int .i64 i] 69);have ad:=Y.new (M.alloc (.cells #[.int .i64 n,.bool false,.bool false,.int .i64 0] 108)) 69 #[.int .i64 1,.string ⟨J.toArray⟩,.int .i64 i];rw[BW]at ad;have bK:=Z bJ;have bL:=Z ay;have bM:=Z ad;clear bJ ay ad;by_cases bf:i+1<l.length
       ·have aX:decide ((i:Int)+1<(l.length:Int))=true:=Au (by omega);have b9:=BE l (i+1) bf;rw[b8.out bf]at b9;have cD:(0:Int)<=(i:Int)+1/\(i:Int)+1<(l.length:Int):=(by omega);go_wp2_with fail;go_meet;case rel=>exact⟨rfl,bK.out,bL.out,bM.out⟩
       ·have aX:decide ((i:Int)+1<(l.length:Int))=false:=As (by omega);have b':=bd.out bf;subst b';go_wp2_with fail;go_meet;case rel=>exact⟨rfl,bK.out,bL.out,bM.out⟩
      case rest=>
       obtain⟨rfl,bN,ay,ad⟩:=hcut;have bO:=Z bN;have bP:=Z ay;have cE:=Z ad;have d0:=Y.cell ay 0;have cF:=Y.frozen ay 0;have lb:=Y.lt ay;have cG:=Y.cell ad 0;have cH:=Y.cell ad 1;have cI:=Y.cell ad 2;have cJ:=Y.frozen ad 0;have cK:=Y.lt ad;clear bN ay ad;go_upto_region 29 with(fail);go_cut [119] (fun v G=>v=.bool Iz/\G=wc);case first=>
        have N:=b7.out;by_cases bg:n=1
        ·subst bg;by_cases bh:48<=c.toNat
         ·have ca:decide ((48:Int)<=(c.toNat:Int))=true:=Au (by omega);by_cases bi:c.toNat<=57
          ·have cb:decide ((c.toNat:Int)<=57)=true:=Au (by omega);by_cases aF:ac=60
           ·have bj:1<l.length-i:=by
             apply Classical.byContradiction;intro z;rw[bd.out (by omega)]at aF;exact Aj aF (by decide)
            rw[Au ⟨rfl,bh,bi,bj,.inl aF⟩]at N;subst aF N;go_wp2_with fail;go_meet;case rel=>exact⟨rfl,rfl⟩
           ·by_cases aG:ac=62
            ·have bj:1<l.length-i:=by
              apply Classical.byContradiction;intro z;rw[bd.out (by omega)]at aG;exact Aj aG (by decide)
             rw[Au ⟨rfl,bh,bi,bj,.inr aG⟩]at N;subst aG N;go_wp2_with fail;go_meet;case rel=>exact⟨rfl,rfl⟩
            ·have cL:((ac.toNat:Int)==60)=false:=Aw (d:=60) aF;have cM:((ac.toNat:Int)==62)=false:=Aw (d:=62) aG;rw[As (fun z=>by rcases z.2.2.2.2 with z|z;exact aF z;exact aG z)]at N;subst N;clear aF aG;go_wp2_with fail;go_meet;case rel=>exact⟨rfl,rfl⟩
          ·have cb:decide ((c.toNat:Int)<=57)=false:=As (by omega);rw[As (fun z=>bi z.2.2.1)]at N;subst N;go_wp2_with fail;go_meet;case rel=>exact⟨rfl,rfl⟩
         ·have ca:decide ((48:Int)<=(c.toNat:Int))=false:=As (by omega);rw[As (fun z=>bh z.2.1)]at N;subst N;go_wp2_with fail;go_meet;case rel=>exact⟨rfl,rfl⟩
        ·have cN:((n:Int)==1)=false:=(by rw[A4];omega);rw[As (fun z=>bg z.1)]at N;subst N;clear bg;go_wp2_with fail;go_meet;case rel=>exact⟨rfl,rfl⟩
       case rest=>
        obtain⟨rfl,rfl⟩:=hcut;have bQ:(Value.slice aq h.length ar).ownBlock≠some M.heap.size:=fun e=>by have:=a0.out.tk.lt e;omega
        have bR:(Value.slice aq h.length ar).ownBlock≠some (M.heap.size+1):=fun e=>by have:=a0.out.tk.lt e;omega
        have cO:w.heap.size<=M.heap.size+1:=(by have:=a0.out.gr.size;omega);have bS:=Z bQ;have cc:=Z bR;clear bQ bR;cases Iz with
        |true=>
         have ae:=Z (RA.alloc (bO.out.set (p:=⟨M.heap.size+1,0,none⟩) cc.out (by show w.heap.size<=M.heap.size+1;omega) (.int .i64 3)) (.cells #[.int .i64 3,.string ⟨J.toArray⟩,.int .i64 i] 69));have aa:=Own.made (wc.setCell ⟨M.heap.size+1,0,none⟩ (.int .i64 3)) #[.int .i64 3,.string ⟨J.toArray⟩,.int .i64 i] 69 3 1 0 rfl (by unfold maxLen;omega);rw[World.size_setCell]at aa;have af:=Own.src (P:=prog) (tx:=60) (e':=69) aa (by kernel_rfl) (by
          intro u ag;simp only[List.mem_cons,List.not_mem_nil,or_false]at ag;rcases ag with rfl|rfl|rfl<;>rfl)
         have aH:=Z af;clear af aa;go_wp2_with (at_builtin;refine AV 69 (.agg #[.int .i64 0,.string ⟨#[]⟩,.int .i64 0]) 3 32 underlying60 KE rfl (.slice aq h.length ar) h.length (Jo h) 0 _ 1 [.int .i64 3,.string ⟨J.toArray⟩,.int .i64 i] rfl rfl ae.out.tk (by omega) aH.out (by unfold maxLen;omega) (by omega) ?_;intro bk w' O F I _;obtain⟨bl,bm,rfl,_,_⟩:=Own.form O;(have K:=Z (RA.app (x:=⟨3,J,i⟩) ae.out O F I));(have an:Y w' M.heap.size 108 #[.int .i64 n,.bool false,.bool false,.int .i64 0]:=Y.Bo (Y.alloc (Y.Bi bP.out (p:=⟨M.heap.size+1,0,none⟩) (by show M.heap.size≠M.heap.size+1;omega) _) _) F (fun e=>bS.out e));(have cd:=Y.cell an 0);(have ce:=Y.frozen an 0);(have cf:=Y.lt an);(clear an);(clear O F I));go_roundw;case rel=>exact⟨f,i+n,h++[⟨3,J,i⟩],by go_num,by omega,by omega,by rw[BG];simp;omega,K.out,ai.out⟩
         case measure=>simp[intOf];omega
        |false=>
         have ae:=Z (RA.alloc bO.out (.cells #[.int .i64 1,.string ⟨J.toArray⟩,.int .i64 i] 69));have aa:=Own.made (wc) #[.int .i64 1,.string ⟨J.toArray⟩,.int .i64 i] 69 3 1 0 rfl (by unfold maxLen;omega);have af:=Own.src (P:=prog) (tx:=60) (e':=69) aa (by kernel_rfl) (by
          intro u ag;simp only[List.mem_cons,List.not_mem_nil,or_false]at ag;rcases ag with rfl|rfl|rfl<;>rfl)
         have aH:=Z af;clear af aa;go_wp2_with (at_builtin;refine AV 69 (.agg #[.int .i64 0,.string ⟨#[]⟩,.int .i64 0]) 3 32 underlying60 KE rfl (.slice aq h.length ar) h.length (Jo h) 0 _ 1 [.int .i64 1,.string ⟨J.toArray⟩,.int .i64 i] rfl rfl ae.out.tk (by omega) aH.out (by unfold maxLen;omega) (by omega) ?_;intro bk w' O F I _;obtain⟨bl,bm,rfl,_,_⟩:=Own.form O;(have K:=Z (RA.app (x:=⟨1,J,i⟩) ae.out O F I));(have an:Y w' M.heap.size 108 #[.int .i64 n,.bool false,.bool false,.int .i64 0]:=Y.Bo (Y.alloc (bP.out) _) F (fun e=>bS.out e));(have cd:=Y.cell an 0);(have ce:=Y.frozen an 0);(have cf:=Y.lt an);(clear an);(clear O F I));go_roundw;case rel=>exact⟨f,i+n,h++[⟨1,J,i⟩],by go_num,by omega,by omega,by rw[BG];simp;omega,K.out,ai.out⟩
         case measure=>simp[intOf];omega
    ·have W:Ce (l.drop i)=.tok 2 S:=(by unfold Ce;rw[am,Ai aw]);obtain⟨bD,bE⟩:=aD _ _ W;rw[W]at L;have cP:S.isEmpty=false:=(by cases S with|nil=>exact Aj rfl aw|cons=>rfl);have bc:i+S.length<=l.length:=(by omega);have aS:=Z aE;have ai:=Z L;clear aE aj L W aD aI aJ aK am aL;go_wp2_with fail;refine(al.out _).mono ?_;rintro e G ⟨rfl,rfl⟩;go_wp2_with fail;refine(aS.out _).mono ?_;rintro e ah ⟨rfl,ab⟩;have be:=Z (K.out.grown ab);clear ab aw;have ae:=Z (RA.alloc be.out (.cells #[.int .i64 2,.string ⟨S.toArray⟩,.int .i64 i] 69));have aa:=Own.made (ah) #[.int .i64 2,.string ⟨S.toArray⟩,.int .i64 i] 69 3 1 0 rfl (by unfold maxLen;omega);have af:=Own.src (P:=prog) (tx:=60) (e':=69) aa (by kernel_rfl) (by
      intro u ag;simp only[List.mem_cons,List.not_mem_nil,or_false]at ag;rcases ag with rfl|rfl|rfl<;>rfl)
     have aH:=Z af;clear af aa;go_wp2_with (at_builtin;refine AV 69 (.agg #[.int .i64 0,.string ⟨#[]⟩,.int .i64 0]) 3 32 underlying60 KE rfl (.slice aq h.length ar) h.length (Jo h) 0 _ 1 [.int .i64 2,.string ⟨S.toArray⟩,.int .i64 i] rfl rfl ae.out.tk (by omega) aH.out (by unfold maxLen;omega) (by omega) ?_;intro bk w' O F I _;obtain⟨bl,bm,rfl,_,_⟩:=Own.form O;(have K:=Z (RA.app (x:=⟨2,S,i⟩) ae.out O F I));(clear O F I));go_roundw;case rel=>exact⟨f,i+S.length,h++[⟨2,S,i⟩],by go_num,by omega,by omega,by rw[BG];simp;omega,K.out,ai.out⟩
     case measure=>simp[intOf];omega
  ·have bW:decide ((i:Int)<(l.length:Int))=false:=As (by omega);have aU:R=.ok h:=by
    have:=ap.out;rw[IG (by omega),EC,Nat.add_zero]at this;cases ao with
    |zero=>exact this.symm
    |succ f=>rw[FA,AP aN]at this;exact this.symm
   subst aU;have ae:=Z (RA.alloc K.out (.cells #[.int .i64 4,.string ⟨#[]⟩,.int .i64 l.length] 69));have aa:=Own.made (wr) #[.int .i64 4,.string ⟨#[]⟩,.int .i64 l.length] 69 3 1 0 rfl (by unfold maxLen;omega);have af:=Own.src (P:=prog) (tx:=60) (e':=69) aa (by kernel_rfl) (by
    intro u ag;simp only[List.mem_cons,List.not_mem_nil,or_false]at ag;rcases ag with rfl|rfl|rfl<;>rfl)
   have aH:=Z af;clear af aa;go_wp2_with (at_builtin;refine AV 69 (.agg #[.int .i64 0,.string ⟨#[]⟩,.int .i64 0]) 3 32 underlying60 KE rfl (.slice aq h.length ar) h.length (Jo h) 0 _ 1 [.int .i64 4,.string ⟨#[]⟩,.int .i64 l.length] rfl rfl ae.out.tk (by omega) aH.out (by unfold maxLen;omega) (by omega) ?_;intro bk w' O F I _;obtain⟨bl,bm,rfl,_,_⟩:=Own.form O;(have cg:=Z (RA.app (x:=⟨4,[],l.length⟩) ae.out O F I));(clear O F I));go_ret3;exact cg.out.post
theorem Xo(l:List UInt8)(w:World)(z:l.length<=9223372036854775807):Calls prog 46 #[sv l] w fun e w'=>DV w l (GA l) e w':=by
 by_cases h:4096<l.length
 ·have:GA l=.err 0 10:=(by unfold GA;rw[Ai h]);rw[this];exact QY l w h z
 ·rw[Kv l h];exact Ob l w (by omega) _ rfl
end Go.Proofs.YtdhfhphbkfgamaaGreat.Lx
