/- A part. -/
import Derived.Test.YtdhfhphbkfgamaaGreatEc
set_option maxRecDepth 100000
set_option linter.all false
set_option maxHeartbeats 0
namespace Go.Proofs.YtdhfhphbkfgamaaGreat
section
open Go.RowKit Lx Proofs.Tryz
def BP(ps:List (List V)):Nat:=(ps.map List.length).sum
theorem J2:∀ps:List (List V),(AQ ps).1.length=BP ps:=by
 intro ps;have:∀(ps:List (List V)) (a:List V×List Int),(ps.foldl CH a).1.length=a.1.length+BP ps:=by
  intro ps;induction ps with
  |nil=>intro a;rfl
  |cons q ps ih=>
   intro a;rw[List.foldl_cons,ih];have hs:BP (q::ps)=q.length+BP ps:=(by simp[BP]);rw[hs];unfold CH;split
   ·rename_i h;subst h;simp
   ·simp[E3];omega
 rw[AQ,this];simp
theorem Js(ps:List (List V))(i:Nat)(h:i<ps.length):BP (ps.take i)+ps[i].length<=BP ps:=by
 have z:ps=ps.take i++ps[i]::ps.drop (i+1):=by
  rw[<-List.drop_eq_getElem_cons h,List.take_append_drop]
 have F:BP ps=BP (ps.take i)+(ps[i].length+BP (ps.drop (i+1))):=by
  refine(congrArg BP z).trans ?_;unfold BP;rw[FN,List.sum_append,List.map_cons,List.sum_cons]
 omega
def KB(ms:List V):Prop:=∀x∈ms,x.kids.length<=1000/\ ∀k∈x.kids,k<ms.length/\(k<0->k= -1)
theorem KB.zero{ms:List V}(F:KB ms):ms.map (V.sh 0)=ms:=by
 have:∀l:List V,(∀x∈l,∀k∈x.kids,k<0->k= -1)->l.map (V.sh 0)=l:=by
  intro l;induction l with
  |nil=>intro _;rfl
  |cons n l ih=>
   intro h;rw[List.map_cons,ih fun x hx=>h x (List.mem_cons_of_mem _ hx)];have hk:∀ks:List Int,(∀k∈ks,k<0->k= -1)->ks.map (Es 0)=ks:=by
    intro ks;induction ks with
    |nil=>intro _;rfl
    |cons k ks G=>
     intro z;rw[List.map_cons,G fun x hx=>z x (List.mem_cons_of_mem _ hx)];have:Es 0 k=k:=by
      unfold Es;split
      ·rename_i I;rw[z k (En ..) I]
      ·omega
     rw[this]
   have:V.sh 0 n=n:=by
    unfold V.sh;rw[hk n.kids (h n (En ..))]
   rw[this]
 exact this ms fun x hx k hk=>((F x hx).2 k hk).2
theorem WK{pre ms:List V}(h:KB pre)(z:KB ms):KB (E3 pre ms):=by
 intro x hx;unfold E3 at hx;rw[Fu];rw[ID]at hx;rcases hx with hx|hx
 ·exact⟨(h x hx).1,fun k hk=>⟨by have:=((h x hx).2 k hk).1;omega,((h x hx).2 k hk).2⟩⟩
 ·obtain⟨y,hy,rfl⟩:=List.mem_map.1 hx;obtain⟨F,G⟩:=z y hy;refine⟨by show(y.kids.map _).length<=1000;rw[List.length_map];exact F,fun k hk=>?_⟩;obtain⟨j,I,rfl⟩:=List.mem_map.1 (show k∈y.kids.map (Es pre.length)from hk);have:=(G j I).1;unfold Es;split
  ·exact⟨by omega,fun _=>rfl⟩
  ·exact⟨by omega,fun J=>by omega⟩
theorem SW:∀ps:List (List V),(∀ms∈ps,KB ms)->KB (AQ ps).1/\ ∀k∈(AQ ps).2,k<(AQ ps).1.length/\(k<0->k= -1):=by
 intro ps h;have:∀(ps:List (List V)) (a:List V×List Int),(∀ms∈ps,KB ms)->KB a.1->(∀k∈a.2,k<a.1.length/\(k<0->k= -1))->KB (ps.foldl CH a).1/\ ∀k∈(ps.foldl CH a).2,k<(ps.foldl CH a).1.length/\(k<0->k= -1):=by
  intro ps;induction ps with
  |nil=>intro a _ F z;exact⟨F,z⟩
  |cons q ps ih=>
   intro a G F z;rw[List.foldl_cons];refine ih _ (fun m I=>G m (List.mem_cons_of_mem _ I)) ?_ ?_
   ·unfold CH;split
    ·exact F
    ·exact WK F (G q (En ..))
   ·unfold CH;split
    ·intro k hk;rw[ID,DA]at hk;rcases hk with hk|rfl
     ·exact z k hk
     ·exact⟨by show(-1:Int)<(a.1.length:Int);omega,fun _=>rfl⟩
    ·rename_i J;have:=List.length_pos_iff.2 J;intro k hk;rw[ID,DA]at hk;refine⟨?_,fun K=>?_⟩
     ·show k<((E3 a.1 q).length:Int);rw[Fu];rcases hk with hk|rfl
      ·have:=(z k hk).1;omega
      ·omega
     ·rcases hk with hk|rfl
      ·exact(z k hk).2 K
      ·omega
 exact this ps ([],[]) h (fun _ h=>by cases h) (fun _ h=>by cases h)
theorem Dg{ps:List (List V)}{n:V}(F:∀ms∈ps,KB ms)(G:ps.length<=1000)(I:n.kids=[]):KB (Bf ps n):=by
 obtain⟨h,z⟩:=SW ps F;intro x hx;unfold Bf at hx;have J:(Bf ps n).length=(AQ ps).1.length+1:=(by simp[Bf]);rw[J];rw[ID,DA]at hx;rcases hx with hx|rfl
 ·exact⟨(h x hx).1,fun k hk=>⟨by have:=((h x hx).2 k hk).1;omega,((h x hx).2 k hk).2⟩⟩
 ·rw[I,List.nil_append];exact⟨by rw[Il];exact G,fun k hk=>⟨by have:=(z k hk).1;omega,(z k hk).2⟩⟩
theorem Ke{av:Nat->Prop}{w:World}{a b r p k:Value}{n:V}(h:Bk av w a b r p k n):∃z F G I J K L M N O X aa ab ac,a=.slice z F G/\b=.slice I J K/\r=.slice L M N/\p=.slice O X aa/\k=.slice ab n.kids.length ac:=by
 obtain⟨aj,ak,ad,_⟩:=h.AZ.form;obtain⟨al,am,ae,_⟩:=h.words.form;obtain⟨an,ao,af,_⟩:=h.DJ.form;obtain⟨ap,ag,_,_⟩:=h.AT;obtain⟨aq,ar,ah,_⟩:=ag.form;obtain⟨au,aw,ai,_⟩:=h.kids.form;exact⟨_,_,_,_,_,_,_,_,_,_,_,_,_,_,ad,ae,af,ah,ai⟩
def Fo(av:Nat->Prop)(w:World)(l:List V)(e:Ending)(w':World):Prop:=∃v,e=.returned v/\Ct av w' v l/\(∀g,v.ownBlock=some g->w.heap.size<=g)/\w.grownBy w' none
theorem ints_at{w:World}{v:Value}{l:List Int}(F:He w v l)(i:Nat)(G:i<l.length):∃g h z,v=.slice (some ⟨g,h,none⟩) l.length z/\g<w.heap.size/\w.cell? ⟨g,h+i,none⟩=some (.int .i64 l[i]):=by
 obtain⟨g,h,z,rfl,_,_,I,J⟩:=F.some_ (by omega);refine⟨g,h,z,rfl,I,?_⟩;rw[J i (by omega),II,CZ G];rfl
structure Uo(W W2:World)(xb:Nat)(C:Array Value)(v:Value)(ks:List Int):Prop where
 gr:W.grownBy W2 none
 box:Y W2 xb 32 C
 kd:He W2 v ks
 kn:∀g,v.ownBlock=some g->W.heap.size<=g
section
variable {W W2 W3 wA:World}{xb:Nat}{C:Array Value}{v vA:Value}{ks:List Int}
theorem Uo.grown(h:Uo W W2 xb C v ks)(z:W2.grownBy W3 none):Uo W W3 xb C v ks:=⟨AI h.gr z,Y.grown h.box z (by simp),Bl z h.kd,h.kn⟩
theorem Uo.O9(h:Uo W W2 xb C v ks)(o:Obj){y:Int}(G:Own wA 3 1 vA (ks.length+1) (ks.map (Value.int .i64)++[.int .i64 y]) 0)(F:Az (fun g=>v.ownBlock=some g) (W2.alloc o) wA)(I:∀g,vA.ownBlock=some g->v.ownBlock=some g\/(W2.alloc o).heap.size<=g):Uo W wA xb C vA (ks++[y]):=by
 have z:=h.grown (AF (AB W2 none) o);refine⟨Mg h.gr o F h.kn,Y.Bo z.box F (fun e=>Aj ((Own.AO z.kd e).uniq z.box.AO) (by decide)),?_,fun g J=>?_⟩
 ·unfold He;rw[BG,Cj,FN];exact G
 ·rcases I g J with e|e
  ·exact h.kn g e
  ·have:=z.gr.size;omega
end
theorem OI.fin{av:Nat->Prop}{w W wA:World}{X:Nat}{n:V}{a b r p J G vA:Value}{z:List V}{kids:List Int}(h:OI av w W X n a b r p J G z kids)(hx:Bk av w a b r p (.slice none 0 0) n){K:List Value}(M:Own W 32 8 G z.length K 0)(aa:∀i (h:i<z.length),∃a b r p k,(K.drop (i*8)).take 8=AU z[i] a b r p k/\Bk (fun k=>J.ownBlock=some k\/av k) W a b r p k z[i])
  (o:Obj) (ab:Own wA 32 8 vA (z.length+1) (K++AU { n with kids:=kids } a b r p J) 0) (N:Az (fun g=>G.ownBlock=some g) (W.alloc o) wA) (ac:∀g,vA.ownBlock=some g->G.ownBlock=some g\/(W.alloc o).heap.size<=g):
  Ct av wA vA (z++[{ n with kids:=kids }])/\(∀g,vA.ownBlock=some g->w.heap.size<=g)/\w.grownBy wA none:=by
 have I:=AF (AB W none) o;have O:=h.grown I;have ad:∀k,G.ownBlock=some k->Bn (W.alloc o) k 32:=fun k e=>Own.AO (Bl I M) e
 have ae:Fr (fun _=>True) (W.alloc o) wA:=Az.mono N fun k _ e=>⟨trivial,.inr (ad k e)⟩
 refine⟨?_,fun g L=>?_,Mg h.gr o N (fun k e=>(h.on k e).1)⟩
 ·refine Ct.add (w:=W.alloc o) (base:=fun _=>True) M.len (fun i af=>?_) ab ae ?_
  ·obtain⟨ag,ah,ai,aj,ak,e,al⟩:=aa i af;exact⟨ag,ah,ai,aj,ak,e,(al.fr (base:=fun _=>False) (Fr.AL I)).mono fun _ hk=> .inr hk⟩
  ·have F:=hx.fr (base:=fun _=>False) (Fr.AL (AI h.gr I));exact⟨F.AZ,F.words,F.DJ,F.AT,O.kd,F.ha,F.hb,F.hr,fun g L hk=>by have am:=h.lo g hk;have an:=h.kn g L;omega⟩
 ·rcases ac g L with e|e
  ·exact(h.on g e).1
  ·have:=O.gr.size;omega
theorem F3(av:Nat->Prop)(ps:List (List V))(n:V)(bn a b r p:Value)(w:World)(cs:∀k,av k->k<w.heap.size)(bo:GZ av w bn ps)(bp:Bk av w a b r p (.slice none 0 0) n)(hk:n.kids=[])(bX:∀ms∈ps,KB ms)(bY:BP ps<=60000)(bZ:ps.length<=1000):
  Calls prog 71 #[bn,.agg (AU n a b r p (.slice none 0 0)).toArray] w (Fo av w (Bf ps n)):=by
 have ct:=Z bo;have cu:=Z bp;have cv:=Z bX;have b0:=Z bY;have b1:=Z bZ;have b2:=Z (show Bf ps n=(AQ ps).1++[{ n with kids:=(AQ ps).2 }] by unfold Bf;rw[hk];rfl);obtain⟨R,b3⟩:=U (Bf ps n);rw[b3]at b2⊢;clear b3;obtain⟨b4,bq,rfl,_,_⟩:∃b4 bq,bn=.slice b4 ps.length bq/\ps.length<=bq/\True:=by
  obtain⟨a4,az,_⟩:=bo;obtain⟨x,y,e,aM,_⟩:=az.form;exact⟨x,y,e,aM,trivial⟩
 obtain⟨aA,aB,aC,aD,aE,aF,aG,aH,aI,aJ,aK,aL,_,_,rfl,rfl,rfl,rfl,_⟩:=Ke bp;have a5:=Z (⟨cs,AF (AB w none) _,BN _,Y.new w 32 (AU n (.slice aA aB aC) (.slice aD aE aF) (.slice aG aH aI) (.slice aJ aK aL) (.slice none 0 0)).toArray,Own.nil _ _ _ _,fun g aS=>(by cases aS),Ct.nil _ _,fun g aS=>(by cases aS)⟩:OI av w (w.alloc (.cells (AU n (.slice aA aB aC) (.slice aD aE aF) (.slice aG aH aI) (.slice aJ aK aL) (.slice none 0 0)).toArray 32)) w.heap.size n (.slice aA aB aC) (.slice aD aE aF) (.slice aG aH aI) (.slice aJ aK aL) (.slice none 0 0) (.slice none 0 0) [] []);obtain⟨aT,aU,aV,a6,a7,a8,a9,c0⟩:=n;unfold AU sv at a5;simp only[]at a5;unfold AU sv Fo;simp only[]at hk⊢;subst hk;clear bo bp bX bY bZ;go_enter func71,ntmps71;go_wp2_with fail;go_loopg [5,6,7,8,9,10,11] ps.length (fun g br cw c1 b5 cx bs bt wr=> ∃(i:Nat) (b6:Value),cw=.int .i64 i/\i<=ps.length/\ps.length-i<=g/\OI av w wr w.heap.size ⟨aT,aU,aV,a6,a7,a8,a9,[]⟩ (.slice aA aB aC) (.slice aD aE aF) (.slice aG aH aI) (.slice aJ aK aL) b6 br (AQ (ps.take i)).1 (AQ (ps.take i)).2);case atStart=>exact⟨0,.slice none 0 0,rfl,DD _,BN _,a5.out⟩
 case round=>
  obtain⟨b7,cy⟩:=JH gk;subst cy;obtain⟨i,b6,rfl,c2,b8,a'⟩:=hrel;have ba:=Z b8;have N:=Z a';obtain⟨bu,co,rfl,_⟩:=a'.out.form;obtain⟨ae,af,rfl,_,_⟩:=Own.form a'.kd;clear b8 a' a5;by_cases bb:i<ps.length
  ·have cz:decide ((i:Int)<(ps.length:Int))=true:=Au (by omega);have c5:(0:Int)<=(i:Int)/\(i:Int)<(ps.length:Int):=(by omega);obtain⟨c6,c7,c8,c9,c',M,bc,bd,b9⟩:=ct.out.at_ i bb;injection M with M _ aW;subst M aW;have u0:=AH N.out.gr bc bd;have b':=DZ bc N.out.gr.size;have ca:=Z b9;have da:(i:Int)<=1000:=(by have:=b1.out;omega);have cA:=Js ps i bb;have cb:=J2 (ps.take i);have cc:=Il (ps.take i);have aN:=Z (show AQ (ps.take (i+1))=CH (AQ (ps.take i)) ps[i] by rw[Jt bb,GH]);have cd:=Z (cv.out _ (Cp bb));have ce:(AQ (ps.take i)).2.length<=1000:=(by rw[cc,Fw];have:=b1.out;omega);have be:(AQ (ps.take i)).1.length+ps[i].length<=60000:=(by rw[cb];have:=b0.out;omega);obtain⟨ms,cf⟩:=U (ps[i]);rw[cf]at u0 bd ca aN cd be;have bv:=Z (BC bc bd);clear cf b9 cA cb cc bc bd;obtain⟨A,bw⟩:=U (AQ (ps.take i));rw[bw]at aN N ce be;simp only[bw];clear bw;obtain⟨G,kids⟩:=A;simp only[]at N ce be aN⊢;by_cases bf:ms=[]
   ·subst bf;have bx:=Z (show AQ (ps.take (i+1))=(G,kids++[-1])from aN.out);have I:=N.out.box;unfold AU at I;have aX:wr.cell? ⟨w.heap.size,7,none⟩=some (.slice ae kids.length af):=Y.cell I 7;have aY:=Y.lt I;clear I aN;go_wp2_with (at_builtin;refine AV 3 (.int .i64 0) 1 8 underlying30 Ba rfl (.slice ae kids.length af) kids.length (kids.map (Value.int .i64)) 0 _ 1 [.int .i64 (-1)] rfl rfl (Own.alloc N.out.kd _) (by omega) (KR _ _ (-1) rfl) (by unfold maxLen;omega) (by omega) ?_;intro vA wA z K L _;(have aa:=N.out.O9 _ z K L);(have cB:=Y.frozen aa.1 7);(have cC:=Y.lt aa.1);(have cD:wA.cell? ⟨w.heap.size,7,none⟩=some (.slice ae kids.length af):=Y.cell aa.1 7);(have bz:=Z aa.2);(obtain⟨aZ,a0,rfl,_,_⟩:=Own.form z);clear z K L aa);go_roundg (b7-1);case rel=>exact⟨i+1,_,by go_num,by omega,by have:=ba.out;omega,by rw[bx.out];exact bz.out⟩
    case measure=>have:=ba.out;omega
   ·have bx:=Z (show AQ (ps.take (i+1))=(E3 G ms,kids++[((G.length+ms.length:Nat):Int)-1])from aN.out.trans (AP bf));have cE:0<ms.length:=List.length_pos_iff.2 bf;have bA:((ms.length:Int)==0)=false:=(by rw[A4];omega);clear aN bf cE;go_wp2_with fail;clear bA u0 b';go_loopg [5,8,9,10,11] ms.length (fun g br b5 cx bs bt h=> ∃k:Nat,b5=.int .i64 k/\k<=ms.length/\ms.length-k<=g/\OI av w h w.heap.size ⟨aT,aU,aV,a6,a7,a8,a9,[]⟩ (.slice aA aB aC) (.slice aD aE aF) (.slice aG aH aI) (.slice aJ aK aL) (.slice ae kids.length af) br (G++(ms.take k).map (V.sh G.length)) kids);case atStart=>exact⟨0,rfl,DD _,BN _,by simpa using N.out⟩
    case round=>
     obtain⟨h,cF⟩:=JH wr;subst cF;obtain⟨cG,cH⟩:=JH gk;subst cH;obtain⟨k,rfl,hk,cg,aQ⟩:=hrel;have ch:=Z cg;obtain⟨aO,bB⟩:=U (G++(ms.take k).map (V.sh G.length));have bC:=Z bB;rw[bB]at aQ;clear bB;have aR:=Z aQ;obtain⟨bu,co,rfl,_⟩:=aQ.out.form;have u0:=AH aQ.gr bv.out.1 bv.out.2;have b':=DZ bv.out.1 aQ.gr.size;have db:aO.length<=60000:=(by rw[<-bC.out,BG,List.length_map,Fw];omega);clear cg aQ;by_cases bD:k<ms.length
     ·have bA:decide ((k:Int)<(ms.length:Int))=true:=Au (by omega);have dc:(0:Int)<=(k:Int)/\(k:Int)<(ms.length:Int):=(by omega);obtain⟨dd,de,df,dg,xb,dh,di,dj,M,bg,hx,bE,bh,bF,cI,cJ,cK,cL,bG⟩:=(ca.out.grown aR.out.gr).at_ k bD;injection M with M _ aW;subst M aW;obtain⟨ah,ai,aj,ak,al,am,an,ao,ap,aq,ar,au,a1,a2,rfl,rfl,rfl,rfl,rfl⟩:=Ke hx;have bH:=Z (cd.out _ (Cp bD));obtain⟨ci,bI⟩:=U (ms[k]);have cM:=Z (show(ms.take (k+1)).map (V.sh G.length)=(ms.take k).map (V.sh G.length)++[ci.sh G.length] by rw[Jt bD,FN,bI];rfl);rw[bI]at hx bE bh bF bG bH;have cj:=Z hx;clear bI hx;obtain⟨aw,ax,ay,ck,cl,cm,cn,J⟩:=ci;simp only[]at bE bh bF bG;unfold sv at bh;have cN:=Z (⟨AF (AB h none) _,Y.new h 32 #[.int .i64 aw,.string ⟨ax.toArray⟩,.bool ay,.slice ah ai aj,.slice ak al am,.slice an ao ap,.slice aq ar au,.slice a1 J.length a2],Own.nil _ _ _ _,fun g aS=>(by cases aS)⟩:Uo h (h.alloc (.cells #[.int .i64 aw,.string ⟨ax.toArray⟩,.bool ay,.slice ah ai aj,.slice ak al am,.slice an ao ap,.slice aq ar au,.slice a1 J.length a2] 32)) h.heap.size #[.int .i64 aw,.string ⟨ax.toArray⟩,.bool ay,.slice ah ai aj,.slice ak al am,.slice an ao ap,.slice aq ar au,.slice a1 J.length a2] (.slice none 0 0) []);have dk:J.length<=1000:=bH.out.1;have dl:G.length<=60000:=(by omega);go_wp2_with fail;go_loopg [10,11] J.length (fun g bs bt cO=> ∃m:Nat,bt=.int .i64 m/\m<=J.length/\J.length-m<=g/\Uo h cO h.heap.size #[.int .i64 aw,.string ⟨ax.toArray⟩,.bool ay,.slice ah ai aj,.slice ak al am,.slice an ao ap,.slice aq ar au,.slice a1 J.length a2] bs ((J.take m).map (Es G.length)));case atStart=>exact⟨0,rfl,DD _,BN _,cN.out⟩
      case round=>
       clear bE bh bF cI cJ cK cL bG bg u0;obtain⟨m,rfl,dm,bg,a3⟩:=hrel;obtain⟨F,bi⟩:=U ((J.take m).map (Es G.length));have cp:F.length=m:=(by rw[<-bi,List.length_map,Fw];omega);have cq:=Z bi;have dn:=Z cp;rw[bi]at a3;have X:=Z a3;have bj:=Z bg;obtain⟨ab,ac,rfl,_,_⟩:=Own.form a3.kd;have ad:=a3.box;have aX:wr.cell? ⟨h.heap.size,7,none⟩=some (.slice a1 J.length a2):=Y.cell ad 7;have aY:=Y.lt ad;have cP:=Y.frozen ad 7;have bJ:wr.cell? ⟨h.heap.size,0,none⟩=some (.int .i64 aw):=Y.cell ad 0;have bK:wr.cell? ⟨h.heap.size,1,none⟩=some (.string ⟨ax.toArray⟩):=Y.cell ad 1;have bL:wr.cell? ⟨h.heap.size,2,none⟩=some (.bool ay):=Y.cell ad 2;have bM:wr.cell? ⟨h.heap.size,3,none⟩=some (.slice ah ai aj):=Y.cell ad 3;have bN:wr.cell? ⟨h.heap.size,4,none⟩=some (.slice ak al am):=Y.cell ad 4;have bO:wr.cell? ⟨h.heap.size,5,none⟩=some (.slice an ao ap):=Y.cell ad 5;have bP:wr.cell? ⟨h.heap.size,6,none⟩=some (.slice aq ar au):=Y.cell ad 6;have dp:F.length<=1000:=(by omega);clear bg a3 ad bi cp;by_cases bQ:m<J.length
       ·have cQ:decide ((m:Int)<(J.length:Int))=true:=Au (by omega);have dq:(0:Int)<=(m:Int)/\(m:Int)<(J.length:Int):=(by omega);obtain⟨dr,ds,dt,M,bR,cr⟩:=ints_at cj.out.kids m bQ;injection M with M _ aW;subst M aW;have cR:=AH X.out.gr bR cr;have du:=DZ bR X.out.gr.size;have cS:=(bH.out.2 _ (Cp bQ)).1;have aP:=Z (show(J.take (m+1)).map (Es G.length)=F++[Es G.length J[m]] by rw[Jt bQ,FN,cq.out];rfl);obtain⟨y,hy⟩:=U (J[m]);rw[hy]at cR cS aP;clear hy cr bR;by_cases bk:y<0
        ·have cT:decide (y<(0:Int))=true:=Au bk;have aP:=Z (show(J.take (m+1)).map (Es G.length)=F++[-1] by rw[aP.out];unfold Es;rw[Ai bk]);go_wp2_with (at_builtin;refine AV 3 (.int .i64 0) 1 8 underlying30 Ba rfl (.slice ab F.length ac) F.length (F.map (Value.int .i64)) 0 _ 1 [.int .i64 (-1)] rfl rfl (Own.alloc X.out.kd _) (by omega) (KR _ _ (-1) rfl) (by unfold maxLen;omega) (by omega) ?_;intro vA wA z K L _;(have bS:=Z (X.out.O9 _ z K L));(obtain⟨aZ,a0,rfl,_,_⟩:=Own.form z);clear z K L);go_roundg (gk-1);case rel=>exact⟨m+1,by go_num,by omega,by have:=bj.out;omega,by rw[aP.out];exact bS.out⟩
         case measure=>have:=bj.out;omega
        ·have cT:decide (y<(0:Int))=false:=As bk;have aP:=Z (show(J.take (m+1)).map (Es G.length)=F++[y+(G.length:Int)] by rw[aP.out];unfold Es;rw[AP bk]);go_wp2_with (at_builtin;refine AV 3 (.int .i64 0) 1 8 underlying30 Ba rfl (.slice ab F.length ac) F.length (F.map (Value.int .i64)) 0 _ 1 [.int .i64 (y+(G.length:Int))] rfl rfl (Own.alloc X.out.kd _) (by omega) (KR _ _ (y+(G.length:Int)) rfl) (by unfold maxLen;omega) (by omega) ?_;intro vA wA z K L _;(have bS:=Z (X.out.O9 _ z K L));(obtain⟨aZ,a0,rfl,_,_⟩:=Own.form z);clear z K L);go_roundg (gk-1);case rel=>exact⟨m+1,by go_num,by omega,by have:=bj.out;omega,by rw[aP.out];exact bS.out⟩
         case measure=>have:=bj.out;omega
       ·obtain rfl:m=J.length:=by omega
        have cQ:decide ((J.length:Int)<(J.length:Int))=false:=As (by omega);go_upto_region 20 with(fail);have O:=Y.AW X.out.box 7 (.slice ab F.length ac);have bl:=Af X.out.gr (p:=⟨h.heap.size,7,none⟩) (BN _) (.slice ab F.length ac);have bT:=Own.Bi X.out.kd (p:=⟨h.heap.size,7,none⟩) (fun e=>Aj ((Own.AO X.out.kd e).uniq X.out.box.AO) (by decide)) (.slice ab F.length ac);generalize wr.setCell ⟨h.heap.size,7,none⟩ (.slice ab F.length ac)=ag at O bl bT⊢;clear bJ bK bL bM bN bO bP aX aY cP;have O:Y ag h.heap.size 32 #[.int .i64 aw,.string ⟨ax.toArray⟩,.bool ay,.slice ah ai aj,.slice ak al am,.slice an ao ap,.slice aq ar au,.slice ab F.length ac]:=O;have bJ:ag.cell? ⟨h.heap.size,0,none⟩=some (.int .i64 aw):=Y.cell O 0;have bK:ag.cell? ⟨h.heap.size,1,none⟩=some (.string ⟨ax.toArray⟩):=Y.cell O 1;have bL:ag.cell? ⟨h.heap.size,2,none⟩=some (.bool ay):=Y.cell O 2;have bM:ag.cell? ⟨h.heap.size,3,none⟩=some (.slice ah ai aj):=Y.cell O 3;have bN:ag.cell? ⟨h.heap.size,4,none⟩=some (.slice ak al am):=Y.cell O 4;have bO:ag.cell? ⟨h.heap.size,5,none⟩=some (.slice an ao ap):=Y.cell O 5;have bP:ag.cell? ⟨h.heap.size,6,none⟩=some (.slice aq ar au):=Y.cell O 6;have aX:ag.cell? ⟨h.heap.size,7,none⟩=some (.slice ab F.length ac):=Y.cell O 7;have aY:=Y.lt O;obtain⟨a4,az,aM⟩:=aR.out.out;have bm:=Z az;have bU:=Z aM;have cU:=Z (Bl bl az);have cV:=Z bl;have cW:=Z (show He ag (.slice ab F.length ac) F from bT);clear O az aM bl bT;go_wp2_with (at_builtin;refine AV 32 (.agg #[.int .i64 0,.string ⟨#[]⟩,.bool false,.slice none 0 0,.slice none 0 0,.slice none 0 0,.slice none 0 0,.slice none 0 0]) 8 152 underlying22 LC rfl (.slice bu aO.length co) aO.length a4 0 _ 1 (AU ⟨aw,ax,ay,ck,cl,cm,cn,F⟩ (.slice ah ai aj) (.slice ak al am) (.slice an ao ap) (.slice aq ar au) (.slice ab F.length ac)) rfl rfl (Own.alloc cU.out _) (by omega) (WL _ _ ⟨aw,ax,ay,ck,cl,cm,cn,F⟩ ah ak an aq ab ai aj al am ao ap ar au F.length ac rfl) (by unfold maxLen;omega) (by omega) ?_;intro vA wA z K L _;(have cX:=Z (OI.node aR.out cV.out bm.out bU.out cj.out cW.out X.out.kn _ z K L));(obtain⟨aZ,a0,rfl,_,_⟩:=Own.form z);clear z K L);go_roundg (cG-1);case rel=>exact⟨k+1,by go_num,by omega,by have:=ch.out;omega,by
         have M:=cq.out;rw[Dw]at M;rw[cM.out,<-List.append_assoc,bC.out];unfold V.sh;simp only[];rw[M];exact cX.out⟩
        case measure=>have:=ch.out;omega
     ·obtain rfl:k=ms.length:=by omega
      have bA:decide ((ms.length:Int)<(ms.length:Int))=false:=As (by omega);have bV:aO=E3 G ms:=(by rw[<-bC.out,Dw];rfl);have cY:=Z (show((G.length+ms.length:Nat):Int)-1=(aO.length:Int)-1 by rw[bV,Fu]);have cZ:=Z bV;have I:=aR.out.box;unfold AU at I;have aX:h.cell? ⟨w.heap.size,7,none⟩=some (.slice ae kids.length af):=Y.cell I 7;have aY:=Y.lt I;clear I bV;go_wp2_with (at_builtin;refine AV 3 (.int .i64 0) 1 8 underlying30 Ba rfl (.slice ae kids.length af) kids.length (kids.map (Value.int .i64)) 0 _ 1 [.int .i64 ((aO.length:Int)-1)] rfl rfl (Own.alloc aR.out.kd _) (by omega) (KR _ _ ((aO.length:Int)-1) rfl) (by unfold maxLen;omega) (by omega) ?_;intro vA wA z K L _;(have aa:=aR.out.O9 _ z K L);(have cB:=Y.frozen aa.1 7);(have cC:=Y.lt aa.1);(have cD:wA.cell? ⟨w.heap.size,7,none⟩=some (.slice ae kids.length af):=Y.cell aa.1 7);(have bz:=Z aa.2);(obtain⟨aZ,a0,rfl,_,_⟩:=Own.form z);clear z K L aa);go_roundg (b7-1);case rel=>exact⟨i+1,_,by go_num,by omega,by have:=ba.out;omega,by rw[bx.out,cY.out,<-cZ.out];exact bz.out⟩
      case measure=>have:=ba.out;omega
  ·obtain rfl:i=ps.length:=by omega
   have cz:decide ((ps.length:Int)<(ps.length:Int))=false:=As (by omega);have be:(AQ ps).1.length<=60000:=(by rw[J2];exact b0.out);have N:=Z (by have:=N.out;rw[Dw]at this;exact this);simp only[Dw];have I:=N.out.box;unfold AU sv at I;simp only[]at I;have bJ:wr.cell? ⟨w.heap.size,0,none⟩=some (.int .i64 aT):=Y.cell I 0;have bK:wr.cell? ⟨w.heap.size,1,none⟩=some (.string ⟨aU.toArray⟩):=Y.cell I 1;have bL:wr.cell? ⟨w.heap.size,2,none⟩=some (.bool aV):=Y.cell I 2;have bM:wr.cell? ⟨w.heap.size,3,none⟩=some (.slice aA aB aC):=Y.cell I 3;have bN:wr.cell? ⟨w.heap.size,4,none⟩=some (.slice aD aE aF):=Y.cell I 4;have bO:wr.cell? ⟨w.heap.size,5,none⟩=some (.slice aG aH aI):=Y.cell I 5;have bP:wr.cell? ⟨w.heap.size,6,none⟩=some (.slice aJ aK aL):=Y.cell I 6;have aX:wr.cell? ⟨w.heap.size,7,none⟩=some (.slice ae (AQ ps).2.length af):=Y.cell I 7;have aY:=Y.lt I;obtain⟨a4,az,aM⟩:=N.out.out;have bm:=Z az;have bU:=Z aM;clear I az aM;go_wp2_with (at_builtin;refine AV 32 (.agg #[.int .i64 0,.string ⟨#[]⟩,.bool false,.slice none 0 0,.slice none 0 0,.slice none 0 0,.slice none 0 0,.slice none 0 0]) 8 152 underlying22 LC rfl (.slice bu (AQ ps).1.length co) (AQ ps).1.length a4 0 _ 1 (AU ⟨aT,aU,aV,a6,a7,a8,a9,(AQ ps).2⟩ (.slice aA aB aC) (.slice aD aE aF) (.slice aG aH aI) (.slice aJ aK aL) (.slice ae (AQ ps).2.length af)) rfl rfl (Own.alloc bm.out _) (by omega) (WL _ _ ⟨aT,aU,aV,a6,a7,a8,a9,(AQ ps).2⟩ aA aD aG aJ ae aB aC aE aF aH aI aK aL (AQ ps).2.length af rfl) (by unfold maxLen;omega) (by omega) ?_;intro vA wA z K L _;(have bW:=Z (OI.fin N.out cu.out bm.out bU.out _ z K L));(obtain⟨aZ,a0,rfl,_,_⟩:=Own.form z);clear z K L);go_ret;exact⟨_,rfl,by rw[b2.out];exact bW.out.1,bW.out.2.1,bW.out.2.2⟩
end
section
open Go.RowKit Lx Proofs.Tryz
def M8{α:Type}(h:World->α->Value->Prop)(bad:World->Value->Prop)(rb:Nat)(T:List AY)(d:Nat)(w:World):PR α->Ending->World->Prop
 | .ok x ts _,e,w'=> ∃v,e=.returned v/\h w' x v/\BU w' rb T (.ok ts d)/\w.grownBy w' (some rb)
 | .bad a k,e,w'=> ∃v,e=.returned v/\bad w' v/\BU w' rb T (.er a k)/\w.grownBy w' (some rb)
def TZ(w0:World):World->List Rd->Value->Prop:=fun w' l v=>Ji w' v l/\(∀b,v.ownBlock=some b->w0.heap.size<=b)/\l.length<=1000
def XA(w0:World):World->Value->Prop:=fun w' v=> ∃l,TZ w0 w' l v
structure OG(w W:World)(rb:Nat)(T ts:List AY)(d:Nat)(v:Value)(acc:List Rd):Prop where
 st:BU W rb T (.ok ts d)
 own:Ji W v acc
 new:∀b,v.ownBlock=some b->w.heap.size<=b
 gr:w.grownBy W (some rb)
 len:acc.length+ts.length<=500
 E8:rb<w.heap.size
section
variable {w W W' wA:World}{rb d:Nat}{T ts ts':List AY}{v vA:Value}{acc:List Rd}
theorem OG.grown(h:OG w W rb T ts d v acc)(z:W.grownBy W' none):OG w W' rb T ts d v acc:=⟨h.st.grown z,Bl z h.own,h.new,AJ h.gr (Bt z),h.len,h.E8⟩
theorem OG.fresh{B:Nat}(h:OG w W rb T ts d v acc)(z:w.heap.size<=B)(F:¬v.ownBlock=some B)(j:Nat)(u:Value):OG w (W.setCell ⟨B,j,none⟩ u) rb T ts d v acc:=
 ⟨h.st.fresh (DZ h.E8 z) j u,Own.Bi h.own (p:=⟨B,j,none⟩) F u,h.new,AN h.gr (p:=⟨B,j,none⟩) (.inr z) u,h.len,h.E8⟩
theorem Q4(h:Ji W v acc)(z:Bn W rb 86)(j:Nat)(u:Value):Ji (W.setCell ⟨rb,j,none⟩ u) v acc:=Own.Bi h (p:=⟨rb,j,none⟩) (fun e=>Aj ((Own.AO h e).uniq z) (by decide)) u
theorem OG.next{t:AY}{r:List AY}{F:Value}{a:Nat}{f:Int}(h:OG w W rb T (t::r) d v acc)(G:IA W rb T F a d 0 f)(z:T.drop a=t::r/\d<=26)(hk:t.k≠4):OG w (W.setCell ⟨rb,1,none⟩ (.int .i64 ((a:Int)+1))) rb T r d v acc:=
 ⟨BU.next G z.1 z.2 rfl hk,Q4 h.own h.st.AO 1 _,h.new,AN h.gr (p:=⟨rb,1,none⟩) (.inl rfl) _,by have:=h.len;simp only[BR]at this;omega,h.E8⟩
theorem BU.Bo{F:DS}(h:BU W rb T F){S:Nat->Prop}(I:Az S W wA)(J:∀k,S k->rb<k):BU wA rb T F:=by
 have K:∀(z:Value) (a:Nat) (d e f:Int),IA W rb T z a d e f->IA wA rb T z a d e f:=fun z a d e f h=>
  ⟨Y.Bo h.BF I (fun e=>by have:=J _ e;omega),h.tok.Bo I (fun g L e=>by have:=J _ e;have:=h.old g L;omega),h.lt,h.tg,h.old⟩
 cases F with
 |ok ts d=>
  obtain⟨z,a,f,h,G⟩:=h;exact⟨z,a,f,K _ _ _ _ _ h,G⟩
 |er x k=>
  obtain⟨z,i,d,h,G⟩:=h;exact⟨z,i,d,K _ _ _ _ _ h,G⟩
theorem F7{row:Option Nat}{S:Nat->Prop}(F:w.grownBy W row)(o:Obj)(z:Az S (W.alloc o) wA)(G:∀k,S k->w.heap.size<=k):w.grownBy wA row:=by
 have h:=AF F o;exact⟨z.os.trans h.os,z.tape.trans h.tape,z.output.trans h.output,E0 h.size z.size,fun k hk I=>(z.block k (DZ hk h.size) (fun e=>by have:=G k e;omega)).trans (h.block k hk I)⟩
theorem OG.app(h:OG w W rb T ts d v acc)(o:Obj){x:Rd}(F:Own wA 34 3 vA (acc.length+1) (acc.flatMap Rd.cells++x.cells) 0)(z:Az (fun b=>v.ownBlock=some b) (W.alloc o) wA)(G:∀b,vA.ownBlock=some b->v.ownBlock=some b\/(W.alloc o).heap.size<=b)(I:acc.length+1+ts.length<=500):OG w wA rb T ts d vA (acc++[x]):=by
 refine⟨(h.st.grown (AF (AB W none) o)).Bo z (fun k e=>by have:=h.new k e;have:=h.E8;omega),?_,fun b J=>?_,F7 h.gr o z h.new,by rw[BG,Cj];exact I,h.E8⟩
 ·unfold Ji;rw[BG,Cj,List.flatMap_append];simpa using F
 ·rcases G b J with e|e
  ·exact h.new b e
  ·rw[BW]at e;have:=h.gr.size;omega
end
theorem KH(rb:Nat)(T ts:List AY)(d:Nat)(w:World)(h:BU w rb T (.ok ts d)):
  Calls prog 125 #[.pointer (some ⟨rb,0,none⟩)] w (M8 (TZ w) (XA w) rb T d w (Cb ts [])):=by
 have b4:=Z (fun W bM (b5:BU W rb T bM)=>EX rb T bM W b5);have bk:=Z (fun s W=>IZ s W);unfold Qb Ou at bk;have b6:=Z (⟨h,Own.nil _ _ _ _,fun b b7=>(by cases b7),AB w _,by have:=h.Ak.2.2.2.1;simp only[CU];omega,h.lb⟩:OG w w rb T ts d (.slice none 0 0) []);unfold Cb;obtain⟨R,aP⟩:=U (B2 (ts.length+1) [] ts []);have b8:=Z aP;rw[aP];clear aP h;go_enter func125,ntmps125;go_wp2_with fail;go_loopg [3,4,5,6] ts.length (fun g b9 cz cA cB wr=> ∃(f:Nat) (acc:List Rd) (aS:List AY),B2 f acc aS []=R/\aS.length<f/\aS.length<=g/\OG w wr rb T aS d b9 acc);case atStart=>exact⟨_,[],ts,b8.out,Nat.lt_succ_self _,BN _,b6.out⟩
 case round=>
  obtain⟨aH,acc,aS,aP,bl,L,aI⟩:=hrel;have aT:=aI.st.Ak;obtain⟨t,r,rfl⟩:=aT.1.ne;have bm:=Z aP;have bn:=Z aI;have bo:=Z (BC bl L);obtain⟨a6,a7,rfl,_,_⟩:=Own.form aI.own;have b':=Z (aT.2.2.1 t (En ..));have cC:=Z aT.1;have ca:=Z aT.2.1;obtain⟨aH,rfl⟩:∃cb,aH=cb+1:=⟨aH-1,by simp only[BR]at bl;omega⟩;have aU:=Z (fun e:(Value.slice a6 acc.length a7).ownBlock=some (wr.heap.size+1)=>(show False by have:=Own.lt aI.own e;omega));have aj:=Z (BC aI.gr.size (Nat.le_succ_of_le aI.gr.size));clear aP bl L aI aT;obtain⟨aV,a,f,h,J,ac⟩:=bn.out.st;obtain⟨ab,am,ax,c3,c4⟩:=h.cells;obtain⟨g,M,aA,t9,aW,rfl,X,L,ad,t0,t1,t2⟩:=h.Dh;have lb:=h.lb;have ao:=h.lt;have ag:(0:Int)<=(a:Int)/\(a:Int)<((T.length:Nat):Int):=(by omega);have ah:=h.tg.len;obtain⟨aB,ae⟩:=U T.length;have ay:(a:Int)<=500:=(by omega);have aE:=Z h;have aF:=Z (BC J ac);have ap:=J.symm.trans ad;injection ap with aq ar;subst aq ar;rw[ae]at ab ag X ah;have az:=Y.frozen h.BF 1;clear h J ac ad ae ao;obtain⟨z,I,af⟩:=t;simp only[]at t0 t1 t2;go_upto_region 3 with(fail);have aX:Hid (∀G:World,wr.grownBy G none->(G.cell? ⟨rb,0,none⟩=some (.slice (some ⟨g,M,none⟩) aB aA)/\G.cell? ⟨rb,1,none⟩=some (.int .i64 a)/\G.cell? ⟨g,M+a*3,none⟩=some (.int .i64 z)/\G.cell? ⟨g,M+a*3+1,none⟩=some (.string ⟨I.toArray⟩)/\G.cell? ⟨g,M+a*3+2,none⟩=some (.int .i64 af))):=
    Z (fun G au=>⟨AH au lb ab,AH au lb am,AH au L t0,AH au L t1,AH au L t2⟩)
  go_region_held3 (fun G=>G.cell? ⟨rb,0,none⟩=some (.slice (some ⟨g,M,none⟩) aB aA)/\G.cell? ⟨rb,1,none⟩=some (.int .i64 a)/\G.cell? ⟨g,M+a*3,none⟩=some (.int .i64 z)/\G.cell? ⟨g,M+a*3+1,none⟩=some (.string ⟨I.toArray⟩)/\G.cell? ⟨g,M+a*3+2,none⟩=some (.int .i64 af))
    (first|go_keep|exact aX.out _ (by repeat' (first|(with_reducible exact AB _ _)|(with_reducible refine Af ?_ ?_ _)|(with_reducible refine AI ?_ L)|(with_reducible refine Ah ?_)|(with_reducible refine AF ?_ _)|omega|(simp;done))))
    (fail)
  have bN:=Ah (AF (AB wr none) (.cells #[.int .i64 z,.string ⟨I.toArray⟩,.int .i64 af] 69));have F:=Z (show Y (wr.alloc (.cells #[.int .i64 z,.string ⟨I.toArray⟩,.int .i64 af] 69)).drew wr.heap.size 69 #[.int .i64 z,.string ⟨I.toArray⟩,.int .i64 af]from Y.new wr 69 _);have bp:=Z (bn.out.grown bN);have bq:(wr.alloc (.cells #[.int .i64 z,.string ⟨I.toArray⟩,.int .i64 af] 69)).drew.heap.size=wr.heap.size+1:=BW _ _;generalize (wr.alloc (.cells #[.int .i64 z,.string ⟨I.toArray⟩,.int .i64 af] 69)).drew=br,wr.heap.size=N at F bp bq aU aj⊢;clear aX bN;clear ab am ax c3 c4 t0 t1 t2 L lb ag ah ay X az;go_upto_region 5 with(fail);have bs:=AF (AB br none) (.cells #[.int .i64 (-1),.string ⟨#[]⟩,.string ⟨#[]⟩] 34);have F:=Z (Y.grown F.out bs (by simp));have a8:=Z (bp.out.grown bs);have aa:=Z (Y.new br 34 #[.int .i64 (-1),.string ⟨#[]⟩,.string ⟨#[]⟩]);rw[bq]at aa;generalize br.alloc (.cells #[.int .i64 (-1),.string ⟨#[]⟩,.string ⟨#[]⟩] 34)=a9 at F a8 aa⊢;clear bs bq;obtain⟨K,bt⟩:=U (N+1);rw[bt]at aa aU;have aj:=Z (show w.heap.size<=N/\w.heap.size<=K by have:=aj.out;omega);have a':=Z (show N≠K by omega);rw[bt];clear bt;have aY:a9.cell? ⟨N,0,none⟩=some (.int .i64 z):=Y.cell F.out 0;have aJ:a9.cell? ⟨N,1,none⟩=some (.string ⟨I.toArray⟩):=Y.cell F.out 1;have aK:=Y.lt F.out;go_upto_if 25 with(fail);go_cut [] (fun wc=> ∃(aC:Int) (o:AY) (q:List AY),Y wc N 69 #[.int .i64 o.k,.string ⟨o.t.toArray⟩,.int .i64 o.a]/\Y wc K 34 #[.int .i64 aC,.string ⟨#[]⟩,.string ⟨#[]⟩]/\OG w wc rb T (o::q) d (.slice a6 acc.length a7) acc/\q.length<=r.length/\(FO o=false->R=.ok acc (o::q) [])/\(FO o=true-> ∀wt aw,q=wt::aw->R=(if OK (wt::aw)=true then B2 aH (acc++[⟨aC,o.t,wt.t⟩]) aw []else A3 (wt::aw))));case first=>
   by_cases bO:z=3
   · subst bO;obtain⟨c,bP,cD,cE⟩:=b'.out.2 rfl;simp only[]at bP;subst bP;obtain⟨o,q,bu,ba⟩:=ca.out.2.2.1 rfl;subst bu;have bb:o.k=2:=by
      have ak:=ba;unfold FO at ak;rw[CN]at ak;simpa using ak.1
     have cc:=Z ba;have bc:=Z (fun(wt:AY) (aw:List AY) (e:q=wt::aw)=>(show R=(if OK (wt::aw)=true then B2 aH (acc++[⟨(c.toNat:Int)-48,o.t,wt.t⟩]) aw []else A3 (wt::aw)) by
      subst e;rw[<-bm.out,B2];rw[Ai (by simp[ba])];rfl))
     obtain⟨ok,O,aZ⟩:=o;simp only[]at bb;subst bb;clear ba;have cd:=BE [c] 0 (by simp);have ce:(48:Int)<=(c.toNat:Int):=(by omega);have cf:(c.toNat:Int)<=57:=(by omega);have cg:a9.cell? ⟨K,0,none⟩=some (.int .i64 (-1)):=Y.cell aa.out 0;have a0:=Y.frozen aa.out 0;have a1:=Y.lt aa.out;go_upto_region 7 with(fail);have al:=Y.AW aa.out 0 (.int .i64 ((c.toNat:Int)-48));have aD:=Y.Bi F.out (p:=⟨K,0,none⟩) a'.out (.int .i64 ((c.toNat:Int)-48));have aL:=a8.out.fresh (B:=K) aj.out.2 aU.out 0 (.int .i64 ((c.toNat:Int)-48));generalize a9.setCell ⟨K,0,none⟩ (.int .i64 ((c.toNat:Int)-48))=a2 at al aD aL⊢;have aa:Hid (Y a2 K 34 #[.int .i64 ((c.toNat:Int)-48),.string ⟨#[]⟩,.string ⟨#[]⟩]):=Z al;have F:=Z aD;have bd:=Z aL;clear al aD aL aY aJ aK cg a0 a1 cd ce cf;obtain⟨aV,a,f,h,J,ac⟩:=bd.out.st;obtain⟨ab,am,ax,c3,c4⟩:=h.cells;obtain⟨g,M,aA,t9,aW,rfl,X,L,ad,t0,t1,t2⟩:=h.Dh;have lb:=h.lb;have ao:=h.lt;have ag:(0:Int)<=(a:Int)/\(a:Int)<((T.length:Nat):Int):=(by omega);have ah:=h.tg.len;obtain⟨aB,ae⟩:=U T.length;have ay:(a:Int)<=500:=(by omega);have aE:=Z h;have aF:=Z (BC J ac);have ap:=J.symm.trans ad;injection ap with aq ar;subst aq ar;rw[ae]at ab ag X ah;have az:=Y.frozen h.BF 1;clear h J ac ad ae ao;go_upto_region 8 with(fail);have al:=Y.Bi aa.out (p:=⟨rb,1,none⟩) (show K≠rb by have:=aj.out.2;have:=bd.out.E8;omega) (.int .i64 ((a:Int)+1));have aD:=Y.Bi F.out (p:=⟨rb,1,none⟩) (show N≠rb by have:=aj.out.1;have:=bd.out.E8;omega) (.int .i64 ((a:Int)+1));have bv:=bd.out.next aE.out aF.out (by show(3:Nat)≠4;decide);generalize a2.setCell ⟨rb,1,none⟩ (.int .i64 ((a:Int)+1))=be at al aD bv⊢;have aa:=Z al;have F:=Z aD;have aM:=Z bv;clear al aD bv;clear ab am ax c3 c4 t0 t1 t2 L lb ag ah ay X az;obtain⟨aV,a,f,h,J,ac⟩:=aM.out.st;obtain⟨ab,am,ax,c3,c4⟩:=h.cells;obtain⟨g,M,aA,t9,aW,rfl,X,L,ad,t0,t1,t2⟩:=h.Dh;have lb:=h.lb;have ao:=h.lt;have ag:(0:Int)<=(a:Int)/\(a:Int)<((T.length:Nat):Int):=(by omega);have ah:=h.tg.len;obtain⟨aB,ae⟩:=U T.length;have ay:(a:Int)<=500:=(by omega);have aE:=Z h;have aF:=Z (BC J ac);have ap:=J.symm.trans ad;injection ap with aq ar;subst aq ar;rw[ae]at ab ag X ah;have az:=Y.frozen h.BF 1;clear h J ac ad ae ao;have cF:=Y.frozen F.out 0;have cG:=Y.frozen F.out 1;have cH:=Y.frozen F.out 2;have aK:=Y.lt F.out;have aY:be.cell? ⟨N,0,none⟩=some (.int .i64 3):=Y.cell F.out 0;have aJ:be.cell? ⟨N,1,none⟩=some (.string ⟨[c].toArray⟩):=Y.cell F.out 1;have cI:be.cell? ⟨N,2,none⟩=some (.int .i64 af):=Y.cell F.out 2;refine Bh 10 (by kernel_rfl) (by kernel_rfl) ?_;simp only[List.take_succ_cons,List.take_zero,List.drop_succ_cons,List.drop_zero];repeat(go_big_quiet_step (fail))
     refine wpQuiet_nil ?_;rintro _ ⟨nq,rfl⟩;go_wp2
     go_meet;have bw:=At (AB be none) nq;have aD:=((Y.AW (Y.grown F.out bw (by simp)) 0 (.int .i64 ((2:Nat):Int))).AW 1 (.string ⟨O.toArray⟩)).AW 2 (.int .i64 aZ);have al:=((Y.Bi (Y.grown aa.out bw (by simp)) (p:=⟨N,0,none⟩) (fun e=>a'.out e.symm) (.int .i64 ((2:Nat):Int))).Bi (p:=⟨N,1,none⟩) (fun e=>a'.out e.symm) (.string ⟨O.toArray⟩)).Bi (p:=⟨N,2,none⟩) (fun e=>a'.out e.symm) (.int .i64 aZ);have bx:¬(Value.slice a6 acc.length a7).ownBlock=some N:=fun e=>Aj ((Own.AO aM.out.own e).uniq F.out.AO) (by decide)
     have a3:=(((aM.out.grown bw).fresh (B:=N) aj.out.1 bx 0 (.int .i64 ((2:Nat):Int))).fresh (B:=N) aj.out.1 bx 1 (.string ⟨O.toArray⟩)).fresh (B:=N) aj.out.1 bx 2 (.int .i64 aZ);exact⟨_,⟨2,O,aZ⟩,q,aD,al,a3,by simp only[BR];omega,fun e=>Aj (cc.out.symm.trans e) (by decide),fun _=>bc.out⟩
   · have bQ:((z:Int)==3)=false:=(by rw[A4];omega);have bR:=Z (show(z==3)=false by rw[A4];exact bO);go_wp2_with fail;go_meet;refine⟨-1,⟨z,I,af⟩,r,F.out,aa.out,a8.out,BN _,fun e=>?_,fun e wt aw bu=>?_⟩
     ·rw[<-bm.out,B2];rw[AP (by simp only[bR.out,Bool.false_and];decide),AP (by rw[e];decide)]
     ·subst bu;rw[<-bm.out,B2];rw[AP (by simp only[bR.out,Bool.false_and];decide),Ai e];rfl
  case rest=>
   obtain⟨aC,o,q,ak,bS,bT,bf,bU,bV⟩:=hcut;have F:=Z ak;have aa:=Z bS;have an:=Z bT;have ch:=Z bf;have bW:=Z bU;have ci:=Z bV;clear ak bS bT bf bU bV a8 bp aY aJ aK;obtain⟨cj,aN⟩:=U (FO o);have bz:=Z aN;obtain⟨ok,O,aZ⟩:=o;have aY:wc.cell? ⟨N,0,none⟩=some (.int .i64 ok):=Y.cell F.out 0;have aJ:wc.cell? ⟨N,1,none⟩=some (.string ⟨O.toArray⟩):=Y.cell F.out 1;have aK:=Y.lt F.out;cases cj with
   |false=>
     by_cases ck:ok=2
     ·subst ck;have a4:=Z (fun W=>by have:=bk.out O W;rw[show GJ.contains O=false from aN]at this;exact this);unfold sv at a4;clear aN;go_wp2_with fail;refine(a4.out _).mono ?_;rintro e bg ⟨rfl,aO⟩;have ai:=Z (an.out.grown aO);clear aO;go_wp2_with fail;rw[bW.out bz.out];go_ret;exact⟨_,rfl,⟨ai.out.own,ai.out.new,by have:=ai.out.len;omega⟩,ai.out.st,ai.out.gr⟩
     ·have aw:((ok:Int) !=2)=true:=(by rw[bne_iff_ne];omega);clear aN;go_wp2_with fail;rw[bW.out bz.out];go_ret;exact⟨_,rfl,⟨an.out.own,an.out.new,by have:=an.out.len;omega⟩,an.out.st,an.out.gr⟩
   |true=>
     have bb:ok=2:=by
      have ak:=aN;unfold FO at ak;rw[CN]at ak;simpa using ak.1
     subst bb;have a4:=Z (fun W=>by have:=bk.out O W;rw[show GJ.contains O=true from aN]at this;exact this);unfold sv at a4;have cl:=Z (an.out.st.Ak.1.tail (by show(2:Nat)≠4;decide));obtain⟨wt,q,rfl⟩:=cl.out.ne;have bc:=Z (ci.out bz.out wt q rfl);clear aN;go_wp2_with fail;refine(a4.out _).mono ?_;rintro e bg ⟨rfl,aO⟩;have F:=Z (Y.grown F.out aO (by simp));have aa:=Z (Y.grown aa.out aO (by simp));have ai:=Z (an.out.grown aO);clear aO aY aJ aK;have aJ:bg.cell? ⟨N,1,none⟩=some (.string ⟨O.toArray⟩):=Y.cell F.out 1;have aK:=Y.lt F.out;have cm:bg.cell? ⟨K,1,none⟩=some (.string ⟨#[]⟩):=Y.cell aa.out 1;have a0:=Y.frozen aa.out 1;have a1:=Y.lt aa.out;go_upto_region 11 with(fail);have al:=Y.AW aa.out 1 (.string ⟨O.toArray⟩);have aL:=ai.out.fresh (B:=K) aj.out.2 aU.out 1 (.string ⟨O.toArray⟩);generalize bg.setCell ⟨K,1,none⟩ (.string ⟨O.toArray⟩)=a2 at al aL⊢;have cn:=Z (show Y a2 K 34 #[.int .i64 aC,.string ⟨O.toArray⟩,.string ⟨#[]⟩]from al);have aM:=Z aL;clear al aL aJ aK cm a0 a1;obtain⟨aV,a,f,h,J,ac⟩:=aM.out.st;obtain⟨ab,am,ax,c3,c4⟩:=h.cells;obtain⟨g,M,aA,t9,aW,rfl,X,L,ad,t0,t1,t2⟩:=h.Dh;have lb:=h.lb;have ao:=h.lt;have ag:(0:Int)<=(a:Int)/\(a:Int)<((T.length:Nat):Int):=(by omega);have ah:=h.tg.len;obtain⟨aB,ae⟩:=U T.length;have ay:(a:Int)<=500:=(by omega);have aE:=Z h;have aF:=Z (BC J ac);have ap:=J.symm.trans ad;injection ap with aq ar;subst aq ar;rw[ae]at ab ag X ah;have az:=Y.frozen h.BF 1;clear h J ac ad ae ao;go_upto_region 12 with(fail);have bA:=Y.Bi cn.out (p:=⟨rb,1,none⟩) (show K≠rb by have:=aj.out.2;have:=aM.out.E8;omega) (.int .i64 ((a:Int)+1));have a3:=aM.out.next aE.out aF.out (by show(2:Nat)≠4;decide);generalize a2.setCell ⟨rb,1,none⟩ (.int .i64 ((a:Int)+1))=aG at bA a3⊢;have bX:=Z bA;have bY:=Z a3;clear ab am ax c3 c4 t0 t1 t2 L lb ag ah ay X az bA a3;obtain⟨z,I,af⟩:=wt;obtain⟨aV,a,f,h,J,ac⟩:=bY.out.st;obtain⟨ab,am,ax,c3,c4⟩:=h.cells;obtain⟨g,M,aA,t9,aW,rfl,X,L,ad,t0,t1,t2⟩:=h.Dh;have lb:=h.lb;have ao:=h.lt;have ag:(0:Int)<=(a:Int)/\(a:Int)<((T.length:Nat):Int):=(by omega);have ah:=h.tg.len;obtain⟨aB,ae⟩:=U T.length;have ay:(a:Int)<=500:=(by omega);have aE:=Z h;have aF:=Z (BC J ac);have ap:=J.symm.trans ad;injection ap with aq ar;subst aq ar;rw[ae]at ab ag X ah;have az:=Y.frozen h.BF 1;clear h J ac ad ae ao;have aX:Hid (∀G:World,aG.grownBy G none->(G.cell? ⟨rb,0,none⟩=some (.slice (some ⟨g,M,none⟩) aB aA)/\G.cell? ⟨rb,1,none⟩=some (.int .i64 a)/\G.cell? ⟨g,M+a*3,none⟩=some (.int .i64 z)/\G.cell? ⟨g,M+a*3+1,none⟩=some (.string ⟨I.toArray⟩)/\G.cell? ⟨g,M+a*3+2,none⟩=some (.int .i64 af))):=
      Z (fun G au=>⟨AH au lb ab,AH au lb am,AH au L t0,AH au L t1,AH au L t2⟩)
     go_region_held3 (fun G=>G.cell? ⟨rb,0,none⟩=some (.slice (some ⟨g,M,none⟩) aB aA)/\G.cell? ⟨rb,1,none⟩=some (.int .i64 a)/\G.cell? ⟨g,M+a*3,none⟩=some (.int .i64 z)/\G.cell? ⟨g,M+a*3+1,none⟩=some (.string ⟨I.toArray⟩)/\G.cell? ⟨g,M+a*3+2,none⟩=some (.int .i64 af))
      (first|go_keep|exact aX.out _ (by repeat' (first|(with_reducible exact AB _ _)|(with_reducible refine Af ?_ ?_ _)|(with_reducible refine AI ?_ L)|(with_reducible refine Ah ?_)|(with_reducible refine AF ?_ _)|omega|(simp;done))))
      (fail)
     have bB:=Ah (AF (AB aG none) (.cells #[.int .i64 z,.string ⟨I.toArray⟩,.int .i64 af] 69));have a5:=Z (Y.grown bX.out bB (by simp));have ai:=Z (bY.out.grown bB);have bh:=Z (show Y (aG.alloc (.cells #[.int .i64 z,.string ⟨I.toArray⟩,.int .i64 af] 69)).drew aG.heap.size 69 #[.int .i64 z,.string ⟨I.toArray⟩,.int .i64 af]from Y.new aG 69 _);have co:=Z (show K<aG.heap.size from Y.lt bX.out);generalize (aG.alloc (.cells #[.int .i64 z,.string ⟨I.toArray⟩,.int .i64 af] 69)).drew=bi,aG.heap.size=bZ at a5 ai bh co⊢;clear aX bB;clear ab am ax c3 c4 t0 t1 t2 L lb ag ah ay X az;have cp:bi.cell? ⟨bZ,0,none⟩=some (.int .i64 z):=Y.cell bh.out 0;have cq:bi.cell? ⟨bZ,1,none⟩=some (.string ⟨I.toArray⟩):=Y.cell bh.out 1;have cr:=Y.lt bh.out;go_upto_region 13 with(fail);by_cases aQ:z=1\/z=3
     ·have bC:=Z (show R=B2 aH (acc++[⟨aC,O,I⟩]) q [] by rw[bc.out,Ai];unfold OK;rcases aQ with e|e<;>rw[e]<;>rfl);have cs:=Z (show z≠4 by omega);have bD:∀(bj:Prop),(((z:Int) !=1)=false->bj)->(((z:Int) !=1)=true->((z:Int) !=3)=false->bj)->bj:=fun bj a b=>by
       rcases aQ with e|e
       ·exact a (by rw[e];rfl)
       ·exact b (by rw[e];rfl) (by rw[e];rfl)
      clear aQ;go_cut [85] (fun ct wc=>ct=.bool false/\wc=bi);case first=>
       refine bD _ (fun b0=>?_) (fun b0 bQ=>?_);all_goals(
        clear bD;go_wp2_with fail;go_meet;exact⟨rfl,rfl⟩)
      case rest=>
       clear bD;obtain⟨rfl,cu⟩:=hcut;subst cu;have cv:wc.cell? ⟨K,2,none⟩=some (.string ⟨#[]⟩):=Y.cell a5.out 2;have a0:=Y.frozen a5.out 2;have a1:=Y.lt a5.out;go_upto_region 16 with(fail);have bE:=Y.AW a5.out 2 (.string ⟨I.toArray⟩);have bF:=ai.out.fresh (B:=K) aj.out.2 aU.out 2 (.string ⟨I.toArray⟩);generalize wc.setCell ⟨K,2,none⟩ (.string ⟨I.toArray⟩)=b1 at bE bF⊢;have cw:=Z (show Y b1 K 34 #[.int .i64 aC,.string ⟨O.toArray⟩,.string ⟨I.toArray⟩]from bE);have an:=Z bF;clear bE bF cp cq cr cv a0 a1;obtain⟨aV,a,f,h,J,ac⟩:=an.out.st;obtain⟨ab,am,ax,c3,c4⟩:=h.cells;obtain⟨g,M,aA,t9,aW,rfl,X,L,ad,t0,t1,t2⟩:=h.Dh;have lb:=h.lb;have ao:=h.lt;have ag:(0:Int)<=(a:Int)/\(a:Int)<((T.length:Nat):Int):=(by omega);have ah:=h.tg.len;obtain⟨aB,ae⟩:=U T.length;have ay:(a:Int)<=500:=(by omega);have aE:=Z h;have aF:=Z (BC J ac);have ap:=J.symm.trans ad;injection ap with aq ar;subst aq ar;rw[ae]at ab ag X ah;have az:=Y.frozen h.BF 1;clear h J ac ad ae ao;go_upto_region 17 with(fail);have aR:=Y.Bi cw.out (p:=⟨rb,1,none⟩) (show K≠rb by have:=aj.out.2;have:=an.out.E8;omega) (.int .i64 ((a:Int)+1));have bG:=an.out.next aE.out aF.out cs.out;generalize b1.setCell ⟨rb,1,none⟩ (.int .i64 ((a:Int)+1))=bH at aR bG⊢;have cJ:bH.cell? ⟨K,0,none⟩=some (.int .i64 aC):=Y.cell aR 0;have cK:bH.cell? ⟨K,1,none⟩=some (.string ⟨O.toArray⟩):=Y.cell aR 1;have cL:bH.cell? ⟨K,2,none⟩=some (.string ⟨I.toArray⟩):=Y.cell aR 2;have cM:=Y.lt aR;have b2:=Z bG;have cx:=bn.out.len;have bf:=ch.out;simp only[BR]at cx bf;clear ab am ax c3 c4 t0 t1 t2 L lb ag ah ay X az aR bG;go_wp2_with (at_builtin;refine AV 34 (.agg #[.int .i64 0,.string ⟨#[]⟩,.string ⟨#[]⟩]) 3 40 underlying28 LL rfl (.slice a6 acc.length a7) acc.length (acc.flatMap Rd.cells) 0 _ 1 (Rd.cells ⟨aC,O,I⟩) rfl rfl (Own.alloc b2.out.own _) (by omega) (Wd _ _ ⟨aC,O,I⟩ rfl) (by unfold maxLen;omega) (by omega) ?_;intro vA wA bI X b3 _;(have cy:=Z (OG.app b2.out _ bI X b3 (by omega)));(obtain⟨cN,cO,rfl,_,_⟩:=Own.form bI);clear bI X b3);go_roundg (gk-1);case rel=>exact⟨aH,_,q,bC.out.symm,by have:=bo.out.1;simp only[BR]at this;omega,by have:=bo.out.2;simp only[BR]at this;omega,by simpa using cy.out⟩
       case measure=>have:=bo.out.2;simp only[BR]at this;omega
     ·have bC:=Z (show R=.bad af (if z=4 then 23 else 17)from bc.out.trans (AP (by unfold OK;simp only[not_or]at aQ;simp[aQ.1,aQ.2])));have b0:((z:Int) !=1)=true:=(by rw[bne_iff_ne];omega);have bQ:((z:Int) !=3)=true:=(by rw[bne_iff_ne];omega);have bJ:=Z (b4.out bi _ ai.out.st);unfold FC Qu at bJ;simp only[]at bJ;go_wp2_with fail;refine bJ.out.mono ?_;rintro e cP ⟨rfl,ak,bK⟩;have bL:=Z (BC ak (BC (Dl bK ai.out.st.AO ai.out.own (by decide)) (AJ ai.out.gr bK)));clear ak bK;go_wp2_with fail;rw[bC.out];go_ret;exact⟨_,rfl,⟨acc,bL.out.2.1,ai.out.new,by have:=ai.out.len;omega⟩,bL.out.1,bL.out.2.2⟩
end
end Go.Proofs.YtdhfhphbkfgamaaGreat
