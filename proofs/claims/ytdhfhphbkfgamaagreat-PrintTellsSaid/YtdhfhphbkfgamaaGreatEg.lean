/- PrintTells: a part of its proof. -/
import Derived.Test.YtdhfhphbkfgamaaGreatEc
set_option maxRecDepth 100000
set_option maxHeartbeats 64000000
namespace Go.Proofs.YtdhfhphbkfgamaaGreat
section
open Go.RowKit Lx
def BO (ps:List (List V)):Nat:=(ps.map List.length).sum
theorem JQ: ∀ps:List (List V),(AP ps).1.length=BO ps:=by
 intro ps;have: ∀(ps:List (List V)) (a:List V×List Int),(ps.foldl CJ a).1.length=a.1.length+BO ps:=by
  intro ps;induction ps with
  |nil=>intro a;rfl
  |cons q ps ih=>
   intro a;rw[List.foldl_cons,ih];have hs:BO (q::ps)=q.length+BO ps:=(by simp[BO]);rw[hs];unfold CJ;split
   ·rename_i h;subst h;simp
   ·simp[Ek];omega
 rw[AP,this];simp
theorem JS (ps:List (List V)) (i:Nat) (h:i<ps.length):BO (ps.take i)+ps[i].length≤BO ps:=by
 have z:ps=ps.take i++ps[i]::ps.drop (i+1):=by
  rw[←List.drop_eq_getElem_cons h,List.take_append_drop]
 have F:BO ps=BO (ps.take i)+(ps[i].length+BO (ps.drop (i+1))):=by
  refine(congrArg BO z).trans ?_;unfold BO;rw[List.map_append,List.sum_append,List.map_cons,List.sum_cons]
 omega
def KB (ms:List V):Prop:= ∀x∈ms,x.kids.length≤1000∧ ∀k∈x.kids,k<ms.length∧(k<0→k= -1)
theorem KB.zero {ms:List V} (F:KB ms):ms.map (V.sh 0)=ms:=by
 have: ∀l:List V,(∀x∈l,∀k∈x.kids,k<0→k= -1)→l.map (V.sh 0)=l:=by
  intro l;induction l with
  |nil=>intro _;rfl
  |cons n l ih=>
   intro h;rw[List.map_cons,ih fun x hx=>h x (List.mem_cons_of_mem _ hx)];have hk: ∀ks:List Int,(∀k∈ks,k<0→k= -1)→ks.map (EW 0)=ks:=by
    intro ks;induction ks with
    |nil=>intro _;rfl
    |cons k ks G=>
     intro z;rw[List.map_cons,G fun x hx=>z x (List.mem_cons_of_mem _ hx)];have:EW 0 k=k:=by
      unfold EW;split
      ·rename_i I;rw[z k (List.mem_cons_self ..) I]
      ·omega
     rw[this]
   have:V.sh 0 n=n:=by
    unfold V.sh;rw[hk n.kids (h n (List.mem_cons_self ..))]
   rw[this]
 exact this ms fun x hx k hk=>((F x hx).2 k hk).2
theorem VF {pre ms:List V} (h:KB pre) (z:KB ms):KB (Ek pre ms):=by
 intro x hx;unfold Ek at hx;rw[FW];rw[List.mem_append]at hx;rcases hx with hx|hx
 ·exact⟨(h x hx).1,fun k hk=>⟨by have:=((h x hx).2 k hk).1;omega,((h x hx).2 k hk).2⟩⟩
 ·obtain⟨y,hy,rfl⟩:=List.mem_map.1 hx;obtain⟨F,G⟩:=z y hy;refine⟨by show(y.kids.map _).length≤1000;rw[List.length_map];exact F,fun k hk=>?_⟩;obtain⟨j,I,rfl⟩:=List.mem_map.1 (show k∈y.kids.map (EW pre.length)from hk);have:=(G j I).1;unfold EW;split
  ·exact⟨by omega,fun _=>rfl⟩
  ·exact⟨by omega,fun J=>by omega⟩
theorem Rc: ∀ps:List (List V),(∀ms∈ps,KB ms)→KB (AP ps).1∧ ∀k∈(AP ps).2,k<(AP ps).1.length∧(k<0→k= -1):=by
 intro ps h;have: ∀(ps:List (List V)) (a:List V×List Int),(∀ms∈ps,KB ms)→KB a.1→(∀k∈a.2,k<a.1.length∧(k<0→k= -1))→KB (ps.foldl CJ a).1∧ ∀k∈(ps.foldl CJ a).2,k<(ps.foldl CJ a).1.length∧(k<0→k= -1):=by
  intro ps;induction ps with
  |nil=>intro a _ F z;exact⟨F,z⟩
  |cons q ps ih=>
   intro a G F z;rw[List.foldl_cons];refine ih _ (fun m I=>G m (List.mem_cons_of_mem _ I)) ?_ ?_
   ·unfold CJ;split
    ·exact F
    ·exact VF F (G q (List.mem_cons_self ..))
   ·unfold CJ;split
    ·intro k hk;rw[List.mem_append,List.mem_singleton]at hk;rcases hk with hk|rfl
     ·exact z k hk
     ·exact⟨by show(-1:Int)<(a.1.length:Int);omega,fun _=>rfl⟩
    ·rename_i J;have:=List.length_pos_iff.2 J;intro k hk;rw[List.mem_append,List.mem_singleton]at hk;refine⟨?_,fun K=>?_⟩
     ·show k<((Ek a.1 q).length:Int);rw[FW];rcases hk with hk|rfl
      ·have:=(z k hk).1;omega
      ·omega
     ·rcases hk with hk|rfl
      ·exact(z k hk).2 K
      ·omega
 exact this ps ([],[]) h (fun _ h=>by cases h) (fun _ h=>by cases h)
theorem DU {ps:List (List V)} {n:V} (F: ∀ms∈ps,KB ms) (G:ps.length≤1000) (I:n.kids=[]):KB (Bc ps n):=by
 obtain⟨h,z⟩:=Rc ps F;intro x hx;unfold Bc at hx;have J:(Bc ps n).length=(AP ps).1.length+1:=(by simp[Bc]);rw[J];rw[List.mem_append,List.mem_singleton]at hx;rcases hx with hx|rfl
 ·exact⟨(h x hx).1,fun k hk=>⟨by have:=((h x hx).2 k hk).1;omega,((h x hx).2 k hk).2⟩⟩
 ·rw[I,List.nil_append];exact⟨by rw[IK];exact G,fun k hk=>⟨by have:=(z k hk).1;omega,(z k hk).2⟩⟩
theorem J1 {av:Nat→Prop} {w:World} {a b r p k:Value} {n:V} (h:Bi av w a b r p k n): ∃z F G I J K L M N O X aa ab ac,a=.slice z F G∧b=.slice I J K∧r=.slice L M N∧p=.slice O X aa∧k=.slice ab n.kids.length ac:=by
 obtain⟨aj,ak,ad,_⟩:=h.AY.form;obtain⟨al,am,ae,_⟩:=h.words.form;obtain⟨an,ao,af,_⟩:=h.DB.form;obtain⟨ap,ag,_,_⟩:=h.AS;obtain⟨aq,ar,ah,_⟩:=ag.form;obtain⟨au,aw,ai,_⟩:=h.kids.form;exact⟨_,_,_,_,_,_,_,_,_,_,_,_,_,_,ad,ae,af,ah,ai⟩
def FO (av:Nat→Prop) (w:World) (l:List V) (e:Ending) (w':World):Prop:= ∃v,e=.returned v∧Cm av w' v l∧(∀g,v.ownBlock=some g→w.heap.size≤g)∧w.grownBy w' none
theorem ints_at {w:World} {v:Value} {l:List Int} (F:Ge w v l) (i:Nat) (G:i<l.length): ∃g h z,v=.slice (some ⟨g,h,none⟩) l.length z∧g<w.heap.size∧w.cell? ⟨g,h+i,none⟩=some (.int .i64 l[i]):=by
 obtain⟨g,h,z,rfl,_,_,I,J⟩:=F.some_ (by omega);refine⟨g,h,z,rfl,I,?_⟩;rw[J i (by omega),List.getElem?_map,List.getElem?_eq_getElem G];rfl
structure Ug (W W2:World) (xb:Nat) (C:Array Value) (v:Value) (ks:List Int):Prop where
 gr:W.grownBy W2 none
 box:Y W2 xb 32 C
 kd:Ge W2 v ks
 kn: ∀g,v.ownBlock=some g→W.heap.size≤g
section
variable {W W2 W3 wA:World} {xb:Nat} {C:Array Value} {v vA:Value} {ks:List Int}
theorem Ug.grown (h:Ug W W2 xb C v ks) (z:W2.grownBy W3 none):Ug W W3 xb C v ks:=⟨AI h.gr z,Y.grown h.box z (by simp),Bh z h.kd,h.kn⟩
theorem Ug.Ny (h:Ug W W2 xb C v ks) (o:Obj) {y:Int} (G:Own wA 3 1 vA (ks.length+1) (ks.map (Value.int .i64)++[.int .i64 y]) 0) (F:Az (fun g=>v.ownBlock=some g) (W2.alloc o) wA) (I: ∀g,vA.ownBlock=some g→v.ownBlock=some g∨(W2.alloc o).heap.size≤g):Ug W wA xb C vA (ks++[y]):=by
 have z:=h.grown (AF (AB W2 none) o);refine⟨MA h.gr o F h.kn,Y.Bl z.box F (fun e=>Ai ((Own.AN z.kd e).uniq z.box.AN) (by decide)),?_,fun g J=>?_⟩
 ·unfold Ge;rw[BE,Cd,List.map_append];exact G
 ·rcases I g J with e|e
  ·exact h.kn g e
  ·have:=z.gr.size;omega
end
theorem Nn.fin {av:Nat→Prop} {w W wA:World} {X:Nat} {n:V} {a b r p J G vA:Value} {z:List V} {kids:List Int} (h:Nn av w W X n a b r p J G z kids) (hx:Bi av w a b r p (.slice none 0 0) n) {K:List Value} (M:Own W 32 8 G z.length K 0) (aa: ∀i (h:i<z.length),∃a b r p k,(K.drop (i*8)).take 8=AT z[i] a b r p k∧Bi (fun k=>J.ownBlock=some k∨av k) W a b r p k z[i])
  (o:Obj) (ab:Own wA 32 8 vA (z.length+1) (K++AT { n with kids:=kids } a b r p J) 0) (N:Az (fun g=>G.ownBlock=some g) (W.alloc o) wA) (ac: ∀g,vA.ownBlock=some g→G.ownBlock=some g∨(W.alloc o).heap.size≤g):
  Cm av wA vA (z++[{ n with kids:=kids }])∧(∀g,vA.ownBlock=some g→w.heap.size≤g)∧w.grownBy wA none:=by
 have I:=AF (AB W none) o;have O:=h.grown I;have ad: ∀k,G.ownBlock=some k→Bk (W.alloc o) k 32:=fun k e=>Own.AN (Bh I M) e
 have ae:Fr (fun _=>True) (W.alloc o) wA:=Az.mono N fun k _ e=>⟨trivial,.inr (ad k e)⟩
 refine⟨?_,fun g L=>?_,MA h.gr o N (fun k e=>(h.on k e).1)⟩
 ·refine Cm.add (w:=W.alloc o) (base:=fun _=>True) M.len (fun i af=>?_) ab ae ?_
  ·obtain⟨ag,ah,ai,aj,ak,e,al⟩:=aa i af;exact⟨ag,ah,ai,aj,ak,e,(al.fr (base:=fun _=>False) (Fr.AL I)).mono fun _ hk=> .inr hk⟩
  ·have F:=hx.fr (base:=fun _=>False) (Fr.AL (AI h.gr I));exact⟨F.AY,F.words,F.DB,F.AS,O.kd,F.ha,F.hb,F.hr,fun g L hk=>by have am:=h.lo g hk;have an:=h.kn g L;omega⟩
 ·rcases ac g L with e|e
  ·exact(h.on g e).1
  ·have:=O.gr.size;omega
theorem Z0g {P:Prop} (h:P:=by
 go_roundg (gk-1);case rel=>exact⟨m+1,by go_num,by omega,by have:=bk.out;omega,by rw[aP.out];exact bU.out⟩
 case measure=>have:=bk.out;omega):P:=h
theorem Fg (av:Nat→Prop) (ps:List (List V)) (n:V) (bo a b r p:Value) (w:World) (cs: ∀k,av k→k<w.heap.size) (bp:GA av w bo ps) (bq:Bi av w a b r p (.slice none 0 0) n) (hk:n.kids=[]) (bZ: ∀ms∈ps,KB ms) (b0:BO ps≤60000) (b1:ps.length≤1000):
  Calls Tryz.prog 71 #[bo,.agg (AT n a b r p (.slice none 0 0)).toArray] w (FO av w (Bc ps n)):=by
 have ct:=Z bp;have cu:=Z bq;have cv:=Z bZ;have b2:=Z b0;have b3:=Z b1;have b4:=Z (show Bc ps n=(AP ps).1++[{ n with kids:=(AP ps).2 }] by unfold Bc;rw[hk];rfl);obtain⟨R,b5⟩: ∃R,Bc ps n=R:=⟨_,rfl⟩;rw[b5]at b4⊢;clear b5;obtain⟨b6,br,rfl,_,_⟩: ∃b6 br,bo=.slice b6 ps.length br∧ps.length≤br∧True:=by
  obtain⟨a4,aA,_⟩:=bp;obtain⟨x,y,e,aN,_⟩:=aA.form;exact⟨x,y,e,aN,trivial⟩
 obtain⟨aB,aC,aD,aE,aF,aG,aH,aI,aJ,aK,aL,aM,_,_,rfl,rfl,rfl,rfl,_⟩:=J1 bq;have a5:=Z (⟨cs,AF (AB w none) _,BL _,Y.new w 32 (AT n (.slice aB aC aD) (.slice aE aF aG) (.slice aH aI aJ) (.slice aK aL aM) (.slice none 0 0)).toArray,Own.nil _ _ _ _,fun g aS=>(by cases aS),Cm.nil _ _,fun g aS=>(by cases aS)⟩:Nn av w (w.alloc (.cells (AT n (.slice aB aC aD) (.slice aE aF aG) (.slice aH aI aJ) (.slice aK aL aM) (.slice none 0 0)).toArray 32)) w.heap.size n (.slice aB aC aD) (.slice aE aF aG) (.slice aH aI aJ) (.slice aK aL aM) (.slice none 0 0) (.slice none 0 0) [] []);obtain⟨aT,aU,aV,a6,a7,a8,a9,c0⟩:=n;unfold AT sv at a5;simp only[]at a5;unfold AT sv FO;simp only[]at hk⊢;subst hk;clear bp bq bZ b0 b1;go_enter Tryz.func71,Tryz.ntmps71;go_wp2_with fail;go_loopg [5,6,7,8,9,10,11] ps.length (fun g bs cw c1 b7 cx bt bu wr=> ∃(i:Nat) (b8:Value),cw=.int .i64 i∧i≤ps.length∧ps.length-i≤g∧Nn av w wr w.heap.size ⟨aT,aU,aV,a6,a7,a8,a9,[]⟩ (.slice aB aC aD) (.slice aE aF aG) (.slice aH aI aJ) (.slice aK aL aM) b8 bs (AP (ps.take i)).1 (AP (ps.take i)).2);case atStart=>exact⟨0,.slice none 0 0,rfl,DM _,BL _,a5.out⟩
 case round=>
  obtain⟨b9,cy⟩: ∃x,x=gk:=⟨_,rfl⟩;subst cy;obtain⟨i,b8,rfl,c2,b',a'⟩:=hrel;have ba:=Z b';have N:=Z a';obtain⟨bv,bw,rfl,_⟩:=a'.out.form;obtain⟨ae,af,rfl,_,_⟩:=Own.form a'.kd;clear b' a' a5;by_cases bb:i<ps.length
  ·have cz:decide ((i:Int)<(ps.length:Int))=true:=At (by omega);have c5:(0:Int)≤(i:Int)∧(i:Int)<(ps.length:Int):=(by omega);obtain⟨c6,c7,c8,c9,c',M,bc,bd,ca⟩:=ct.out.at_ i bb;injection M with M _ aW;subst M aW;have u0:=AH N.out.gr bc bd;have cb:=DP bc N.out.gr.size;have cc:=Z ca;have da:(i:Int)≤1000:=(by have:=b3.out;omega);have cA:=JS ps i bb;have cd:=JQ (ps.take i);have ce:=IK (ps.take i);have aO:=Z (show AP (ps.take (i+1))=CJ (AP (ps.take i)) ps[i] by rw[Ja bb,Fo]);have cf:=Z (cv.out _ (List.getElem_mem bb));have cg:(AP (ps.take i)).2.length≤1000:=(by rw[ce,List.length_take];have:=b3.out;omega);have be:(AP (ps.take i)).1.length+ps[i].length≤60000:=(by rw[cd];have:=b2.out;omega);obtain⟨ms,ch⟩: ∃ms,ps[i]=ms:=⟨_,rfl⟩;rw[ch]at u0 bd cc aO cf be;have bx:=Z (A8 bc bd);clear ch ca cA cd ce bc bd;obtain⟨A,bz⟩: ∃A,AP (ps.take i)=A:=⟨_,rfl⟩;rw[bz]at aO N cg be;simp only[bz];clear bz;obtain⟨G,kids⟩:=A;simp only[]at N cg be aO⊢;by_cases bf:ms=[]
   ·subst bf;have bA:=Z (show AP (ps.take (i+1))=(G,kids++[-1])from aO.out);have I:=N.out.box;unfold AT at I;have aX:wr.cell? ⟨w.heap.size,7,none⟩=some (.slice ae kids.length af):=Y.cell I 7;have aY:=Y.lt I;clear I aO;go_wp2_with (at_builtin;refine AU 3 (.int .i64 0) 1 8 Tryz.underlying30 BW rfl (.slice ae kids.length af) kids.length (kids.map (Value.int .i64)) 0 _ 1 [.int .i64 (-1)] rfl rfl (Own.alloc N.out.kd _) (by omega) (Jp _ _ (-1) rfl) (by unfold maxLen;omega) (by omega) ?_;intro vA wA F K L _;(have aa:=N.out.Ny _ F K L);(have cB:=Y.frozen aa.1 7);(have cC:=Y.lt aa.1);(have cD:wA.cell? ⟨w.heap.size,7,none⟩=some (.slice ae kids.length af):=Y.cell aa.1 7);(have bB:=Z aa.2);(obtain⟨aZ,a0,rfl,_,_⟩:=Own.form F);clear F K L aa);go_roundg (b9-1);case rel=>exact⟨i+1,_,by go_num,by omega,by have:=ba.out;omega,by rw[bA.out];exact bB.out⟩
    case measure=>have:=ba.out;omega
   ·have bA:=Z (show AP (ps.take (i+1))=(Ek G ms,kids++[((G.length+ms.length:Nat):Int)-1])from aO.out.trans (U bf));have cE:0<ms.length:=List.length_pos_iff.2 bf;have bC:((ms.length:Int)==0)=false:=(by rw[beq_eq_false_iff_ne];omega);clear aO bf cE;go_wp2_with fail;clear bC u0 cb;go_loopg [5,8,9,10,11] ms.length (fun g bs b7 cx bt bu h=> ∃k:Nat,b7=.int .i64 k∧k≤ms.length∧ms.length-k≤g∧Nn av w h w.heap.size ⟨aT,aU,aV,a6,a7,a8,a9,[]⟩ (.slice aB aC aD) (.slice aE aF aG) (.slice aH aI aJ) (.slice aK aL aM) (.slice ae kids.length af) bs (G++(ms.take k).map (V.sh G.length)) kids);case atStart=>exact⟨0,rfl,DM _,BL _,by simpa using N.out⟩
    case round=>
     obtain⟨h,cF⟩: ∃x,x=wr:=⟨_,rfl⟩;subst cF;obtain⟨cG,cH⟩: ∃x,x=gk:=⟨_,rfl⟩;subst cH;obtain⟨k,rfl,hk,ci,aQ⟩:=hrel;have cj:=Z ci;obtain⟨ah,bD⟩: ∃ah,G++(ms.take k).map (V.sh G.length)=ah:=⟨_,rfl⟩;have bE:=Z bD;rw[bD]at aQ;clear bD;have aR:=Z aQ;obtain⟨bv,bw,rfl,_⟩:=aQ.out.form;have u0:=AH aQ.gr bx.out.1 bx.out.2;have cb:=DP bx.out.1 aQ.gr.size;have db:ah.length≤60000:=(by rw[←bE.out,BE,List.length_map,List.length_take];omega);clear ci aQ;by_cases bF:k<ms.length
     ·have bC:decide ((k:Int)<(ms.length:Int))=true:=At (by omega);have dc:(0:Int)≤(k:Int)∧(k:Int)<(ms.length:Int):=(by omega);obtain⟨dd,de,df,dg,xb,dh,di,dj,M,bg,hx,bG,bh,bH,cI,cJ,cK,cL,bI⟩:=(cc.out.grown aR.out.gr).at_ k bF;injection M with M _ aW;subst M aW;obtain⟨ai,aj,ak,al,am,an,ao,ap,aq,ar,au,aw,a1,a2,rfl,rfl,rfl,rfl,rfl⟩:=J1 hx;have bJ:=Z (cf.out _ (List.getElem_mem bF));obtain⟨bi,bK⟩: ∃bi,ms[k]=bi:=⟨_,rfl⟩;have cM:=Z (show(ms.take (k+1)).map (V.sh G.length)=(ms.take k).map (V.sh G.length)++[bi.sh G.length] by rw[Ja bF,List.map_append,bK];rfl);rw[bK]at hx bG bh bH bI bJ;have ck:=Z hx;clear bK hx;obtain⟨ax,ay,az,cl,cm,cn,co,J⟩:=bi;simp only[]at bG bh bH bI;unfold sv at bh;have cN:=Z (⟨AF (AB h none) _,Y.new h 32 #[.int .i64 ax,.string ⟨ay.toArray⟩,.bool az,.slice ai aj ak,.slice al am an,.slice ao ap aq,.slice ar au aw,.slice a1 J.length a2],Own.nil _ _ _ _,fun g aS=>(by cases aS)⟩:Ug h (h.alloc (.cells #[.int .i64 ax,.string ⟨ay.toArray⟩,.bool az,.slice ai aj ak,.slice al am an,.slice ao ap aq,.slice ar au aw,.slice a1 J.length a2] 32)) h.heap.size #[.int .i64 ax,.string ⟨ay.toArray⟩,.bool az,.slice ai aj ak,.slice al am an,.slice ao ap aq,.slice ar au aw,.slice a1 J.length a2] (.slice none 0 0) []);have dk:J.length≤1000:=bJ.out.1;have dl:G.length≤60000:=(by omega);go_wp2_with fail;go_loopg [10,11] J.length (fun g bt bu cO=> ∃m:Nat,bu=.int .i64 m∧m≤J.length∧J.length-m≤g∧Ug h cO h.heap.size #[.int .i64 ax,.string ⟨ay.toArray⟩,.bool az,.slice ai aj ak,.slice al am an,.slice ao ap aq,.slice ar au aw,.slice a1 J.length a2] bt ((J.take m).map (EW G.length)));case atStart=>exact⟨0,rfl,DM _,BL _,cN.out⟩
      case round=>
       clear bG bh bH cI cJ cK cL bI bg u0;obtain⟨m,rfl,dm,bg,a3⟩:=hrel;obtain⟨z,bj⟩: ∃z,(J.take m).map (EW G.length)=z:=⟨_,rfl⟩;have cp:z.length=m:=(by rw[←bj,List.length_map,List.length_take];omega);have cq:=Z bj;have dn:=Z cp;rw[bj]at a3;have X:=Z a3;have bk:=Z bg;obtain⟨ab,ac,rfl,_,_⟩:=Own.form a3.kd;have ad:=a3.box;have aX:wr.cell? ⟨h.heap.size,7,none⟩=some (.slice a1 J.length a2):=Y.cell ad 7;have aY:=Y.lt ad;have cP:=Y.frozen ad 7;have bL:wr.cell? ⟨h.heap.size,0,none⟩=some (.int .i64 ax):=Y.cell ad 0;have bM:wr.cell? ⟨h.heap.size,1,none⟩=some (.string ⟨ay.toArray⟩):=Y.cell ad 1;have bN:wr.cell? ⟨h.heap.size,2,none⟩=some (.bool az):=Y.cell ad 2;have bO:wr.cell? ⟨h.heap.size,3,none⟩=some (.slice ai aj ak):=Y.cell ad 3;have bP:wr.cell? ⟨h.heap.size,4,none⟩=some (.slice al am an):=Y.cell ad 4;have bQ:wr.cell? ⟨h.heap.size,5,none⟩=some (.slice ao ap aq):=Y.cell ad 5;have bR:wr.cell? ⟨h.heap.size,6,none⟩=some (.slice ar au aw):=Y.cell ad 6;have dp:z.length≤1000:=(by omega);clear bg a3 ad bj cp;by_cases bS:m<J.length
       ·have cQ:decide ((m:Int)<(J.length:Int))=true:=At (by omega);have dq:(0:Int)≤(m:Int)∧(m:Int)<(J.length:Int):=(by omega);obtain⟨dr,ds,dt,M,bT,cr⟩:=ints_at ck.out.kids m bS;injection M with M _ aW;subst M aW;have cR:=AH X.out.gr bT cr;have du:=DP bT X.out.gr.size;have cS:=(bJ.out.2 _ (List.getElem_mem bS)).1;have aP:=Z (show(J.take (m+1)).map (EW G.length)=z++[EW G.length J[m]] by rw[Ja bS,List.map_append,cq.out];rfl);obtain⟨y,hy⟩: ∃y,J[m]=y:=⟨_,rfl⟩;rw[hy]at cR cS aP;clear hy cr bT;by_cases bl:y<0
        ·have cT:decide (y<(0:Int))=true:=At bl;have aP:=Z (show(J.take (m+1)).map (EW G.length)=z++[-1] by rw[aP.out];unfold EW;rw[Ah bl]);go_wp2_with (at_builtin;refine AU 3 (.int .i64 0) 1 8 Tryz.underlying30 BW rfl (.slice ab z.length ac) z.length (z.map (Value.int .i64)) 0 _ 1 [.int .i64 (-1)] rfl rfl (Own.alloc X.out.kd _) (by omega) (Jp _ _ (-1) rfl) (by unfold maxLen;omega) (by omega) ?_;intro vA wA F K L _;(have bU:=Z (X.out.Ny _ F K L));(obtain⟨aZ,a0,rfl,_,_⟩:=Own.form F);clear F K L);exact Z0g
        ·have cT:decide (y<(0:Int))=false:=Aq bl;have aP:=Z (show(J.take (m+1)).map (EW G.length)=z++[y+(G.length:Int)] by rw[aP.out];unfold EW;rw[U bl]);go_wp2_with (at_builtin;refine AU 3 (.int .i64 0) 1 8 Tryz.underlying30 BW rfl (.slice ab z.length ac) z.length (z.map (Value.int .i64)) 0 _ 1 [.int .i64 (y+(G.length:Int))] rfl rfl (Own.alloc X.out.kd _) (by omega) (Jp _ _ (y+(G.length:Int)) rfl) (by unfold maxLen;omega) (by omega) ?_;intro vA wA F K L _;(have bU:=Z (X.out.Ny _ F K L));(obtain⟨aZ,a0,rfl,_,_⟩:=Own.form F);clear F K L);exact Z0g
       ·obtain rfl:m=J.length:=by omega
        have cQ:decide ((J.length:Int)<(J.length:Int))=false:=Aq (by omega);go_upto_region 20 with(fail);have O:=Y.AV X.out.box 7 (.slice ab z.length ac);have bm:=Af X.out.gr (p:=⟨h.heap.size,7,none⟩) (BL _) (.slice ab z.length ac);have bV:=Own.Be X.out.kd (p:=⟨h.heap.size,7,none⟩) (fun e=>Ai ((Own.AN X.out.kd e).uniq X.out.box.AN) (by decide)) (.slice ab z.length ac);generalize wr.setCell ⟨h.heap.size,7,none⟩ (.slice ab z.length ac)=ag at O bm bV⊢;clear bL bM bN bO bP bQ bR aX aY cP;have O:Y ag h.heap.size 32 #[.int .i64 ax,.string ⟨ay.toArray⟩,.bool az,.slice ai aj ak,.slice al am an,.slice ao ap aq,.slice ar au aw,.slice ab z.length ac]:=O;have bL:ag.cell? ⟨h.heap.size,0,none⟩=some (.int .i64 ax):=Y.cell O 0;have bM:ag.cell? ⟨h.heap.size,1,none⟩=some (.string ⟨ay.toArray⟩):=Y.cell O 1;have bN:ag.cell? ⟨h.heap.size,2,none⟩=some (.bool az):=Y.cell O 2;have bO:ag.cell? ⟨h.heap.size,3,none⟩=some (.slice ai aj ak):=Y.cell O 3;have bP:ag.cell? ⟨h.heap.size,4,none⟩=some (.slice al am an):=Y.cell O 4;have bQ:ag.cell? ⟨h.heap.size,5,none⟩=some (.slice ao ap aq):=Y.cell O 5;have bR:ag.cell? ⟨h.heap.size,6,none⟩=some (.slice ar au aw):=Y.cell O 6;have aX:ag.cell? ⟨h.heap.size,7,none⟩=some (.slice ab z.length ac):=Y.cell O 7;have aY:=Y.lt O;obtain⟨a4,aA,aN⟩:=aR.out.out;have bn:=Z aA;have bW:=Z aN;have cU:=Z (Bh bm aA);have cV:=Z bm;have cW:=Z (show Ge ag (.slice ab z.length ac) z from bV);clear O aA aN bm bV;go_wp2_with (at_builtin;refine AU 32 (.agg #[.int .i64 0,.string ⟨#[]⟩,.bool false,.slice none 0 0,.slice none 0 0,.slice none 0 0,.slice none 0 0,.slice none 0 0]) 8 152 Tryz.underlying22 KG rfl (.slice bv ah.length bw) ah.length a4 0 _ 1 (AT ⟨ax,ay,az,cl,cm,cn,co,z⟩ (.slice ai aj ak) (.slice al am an) (.slice ao ap aq) (.slice ar au aw) (.slice ab z.length ac)) rfl rfl (Own.alloc cU.out _) (by omega) (Uu _ _ ⟨ax,ay,az,cl,cm,cn,co,z⟩ ai al ao ar ab aj ak am an ap aq au aw z.length ac rfl) (by unfold maxLen;omega) (by omega) ?_;intro vA wA F K L _;(have cX:=Z (Nn.node aR.out cV.out bn.out bW.out ck.out cW.out X.out.kn _ F K L));(obtain⟨aZ,a0,rfl,_,_⟩:=Own.form F);clear F K L);go_roundg (cG-1);case rel=>exact⟨k+1,by go_num,by omega,by have:=cj.out;omega,by
         have M:=cq.out;rw[List.take_length]at M;rw[cM.out,←List.append_assoc,bE.out];unfold V.sh;simp only[];rw[M];exact cX.out⟩
        case measure=>have:=cj.out;omega
     ·obtain rfl:k=ms.length:=by omega
      have bC:decide ((ms.length:Int)<(ms.length:Int))=false:=Aq (by omega);have bX:ah=Ek G ms:=(by rw[←bE.out,List.take_length];rfl);have cY:=Z (show((G.length+ms.length:Nat):Int)-1=(ah.length:Int)-1 by rw[bX,FW]);have cZ:=Z bX;have I:=aR.out.box;unfold AT at I;have aX:h.cell? ⟨w.heap.size,7,none⟩=some (.slice ae kids.length af):=Y.cell I 7;have aY:=Y.lt I;clear I bX;go_wp2_with (at_builtin;refine AU 3 (.int .i64 0) 1 8 Tryz.underlying30 BW rfl (.slice ae kids.length af) kids.length (kids.map (Value.int .i64)) 0 _ 1 [.int .i64 ((ah.length:Int)-1)] rfl rfl (Own.alloc aR.out.kd _) (by omega) (Jp _ _ ((ah.length:Int)-1) rfl) (by unfold maxLen;omega) (by omega) ?_;intro vA wA F K L _;(have aa:=aR.out.Ny _ F K L);(have cB:=Y.frozen aa.1 7);(have cC:=Y.lt aa.1);(have cD:wA.cell? ⟨w.heap.size,7,none⟩=some (.slice ae kids.length af):=Y.cell aa.1 7);(have bB:=Z aa.2);(obtain⟨aZ,a0,rfl,_,_⟩:=Own.form F);clear F K L aa);go_roundg (b9-1);case rel=>exact⟨i+1,_,by go_num,by omega,by have:=ba.out;omega,by rw[bA.out,cY.out,←cZ.out];exact bB.out⟩
      case measure=>have:=ba.out;omega
  ·obtain rfl:i=ps.length:=by omega
   have cz:decide ((ps.length:Int)<(ps.length:Int))=false:=Aq (by omega);have be:(AP ps).1.length≤60000:=(by rw[JQ];exact b2.out);have N:=Z (by have:=N.out;rw[List.take_length]at this;exact this);simp only[List.take_length];have I:=N.out.box;unfold AT sv at I;simp only[]at I;have bL:wr.cell? ⟨w.heap.size,0,none⟩=some (.int .i64 aT):=Y.cell I 0;have bM:wr.cell? ⟨w.heap.size,1,none⟩=some (.string ⟨aU.toArray⟩):=Y.cell I 1;have bN:wr.cell? ⟨w.heap.size,2,none⟩=some (.bool aV):=Y.cell I 2;have bO:wr.cell? ⟨w.heap.size,3,none⟩=some (.slice aB aC aD):=Y.cell I 3;have bP:wr.cell? ⟨w.heap.size,4,none⟩=some (.slice aE aF aG):=Y.cell I 4;have bQ:wr.cell? ⟨w.heap.size,5,none⟩=some (.slice aH aI aJ):=Y.cell I 5;have bR:wr.cell? ⟨w.heap.size,6,none⟩=some (.slice aK aL aM):=Y.cell I 6;have aX:wr.cell? ⟨w.heap.size,7,none⟩=some (.slice ae (AP ps).2.length af):=Y.cell I 7;have aY:=Y.lt I;obtain⟨a4,aA,aN⟩:=N.out.out;have bn:=Z aA;have bW:=Z aN;clear I aA aN;go_wp2_with (at_builtin;refine AU 32 (.agg #[.int .i64 0,.string ⟨#[]⟩,.bool false,.slice none 0 0,.slice none 0 0,.slice none 0 0,.slice none 0 0,.slice none 0 0]) 8 152 Tryz.underlying22 KG rfl (.slice bv (AP ps).1.length bw) (AP ps).1.length a4 0 _ 1 (AT ⟨aT,aU,aV,a6,a7,a8,a9,(AP ps).2⟩ (.slice aB aC aD) (.slice aE aF aG) (.slice aH aI aJ) (.slice aK aL aM) (.slice ae (AP ps).2.length af)) rfl rfl (Own.alloc bn.out _) (by omega) (Uu _ _ ⟨aT,aU,aV,a6,a7,a8,a9,(AP ps).2⟩ aB aE aH aK ae aC aD aF aG aI aJ aL aM (AP ps).2.length af rfl) (by unfold maxLen;omega) (by omega) ?_;intro vA wA F K L _;(have bY:=Z (Nn.fin N.out cu.out bn.out bW.out _ F K L));(obtain⟨aZ,a0,rfl,_,_⟩:=Own.form F);clear F K L);go_ret;exact⟨_,rfl,by rw[b4.out];exact bY.out.1,bY.out.2.1,bY.out.2.2⟩
end
section
open Go.RowKit Lx
def NS {α:Type} (h:World→α→Value→Prop) (bad:World→Value→Prop) (rb:Nat) (T:List AX) (d:Nat) (w:World):PR α→Ending→World→Prop
 | .ok x ts _,e,w'=> ∃v,e=.returned v∧h w' x v∧BS w' rb T (.ok ts d)∧w.grownBy w' (some rb)
 | .bad a k,e,w'=> ∃v,e=.returned v∧bad w' v∧BS w' rb T (.er a k)∧w.grownBy w' (some rb)
def TR (w0:World):World→List Rd→Value→Prop:=fun w' l v=>I4 w' v l∧(∀b,v.ownBlock=some b→w0.heap.size≤b)∧l.length≤1000
def Wk (w0:World):World→Value→Prop:=fun w' v=> ∃l,TR w0 w' l v
structure Nl (w W:World) (rb:Nat) (T ts:List AX) (d:Nat) (v:Value) (acc:List Rd):Prop where
 st:BS W rb T (.ok ts d)
 own:I4 W v acc
 new: ∀b,v.ownBlock=some b→w.heap.size≤b
 gr:w.grownBy W (some rb)
 len:acc.length+ts.length≤500
 Ex:rb<w.heap.size
section
variable {w W W' wA:World} {rb d:Nat} {T ts ts':List AX} {v vA:Value} {acc:List Rd}
theorem Nl.grown (h:Nl w W rb T ts d v acc) (z:W.grownBy W' none):Nl w W' rb T ts d v acc:=⟨h.st.grown z,Bh z h.own,h.new,AJ h.gr (Bp z),h.len,h.Ex⟩
theorem Nl.fresh {B:Nat} (h:Nl w W rb T ts d v acc) (z:w.heap.size≤B) (F: ¬v.ownBlock=some B) (j:Nat) (u:Value):Nl w (W.setCell ⟨B,j,none⟩ u) rb T ts d v acc:=
 ⟨h.st.fresh (DP h.Ex z) j u,Own.Be h.own (p:=⟨B,j,none⟩) F u,h.new,AM h.gr (p:=⟨B,j,none⟩) (.inr z) u,h.len,h.Ex⟩
theorem Pz (h:I4 W v acc) (z:Bk W rb 86) (j:Nat) (u:Value):I4 (W.setCell ⟨rb,j,none⟩ u) v acc:=Own.Be h (p:=⟨rb,j,none⟩) (fun e=>Ai ((Own.AN h e).uniq z) (by decide)) u
theorem Nl.next {t:AX} {r:List AX} {F:Value} {a:Nat} {f:Int} (h:Nl w W rb T (t::r) d v acc) (G:Gl W rb T F a d 0 f) (z:T.drop a=t::r∧d≤26) (hk:t.k≠4):Nl w (W.setCell ⟨rb,1,none⟩ (.int .i64 ((a:Int)+1))) rb T r d v acc:=
 ⟨BS.next G z.1 z.2 rfl hk,Pz h.own h.st.AN 1 _,h.new,AM h.gr (p:=⟨rb,1,none⟩) (.inl rfl) _,by have:=h.len;simp only[BP]at this;omega,h.Ex⟩
theorem BS.Bl {F:DS} (h:BS W rb T F) {S:Nat→Prop} (I:Az S W wA) (J: ∀k,S k→rb<k):BS wA rb T F:=by
 have K: ∀(z:Value) (a:Nat) (d e f:Int),Gl W rb T z a d e f→Gl wA rb T z a d e f:=fun z a d e f h=>
  ⟨Y.Bl h.BD I (fun e=>by have:=J _ e;omega),h.tok.Bl I (fun g L e=>by have:=J _ e;have:=h.old g L;omega),h.lt,h.tg,h.old⟩
 cases F with
 |ok ts d=>
  obtain⟨z,a,f,h,G⟩:=h;exact⟨z,a,f,K _ _ _ _ _ h,G⟩
 |er x k=>
  obtain⟨z,i,d,h,G⟩:=h;exact⟨z,i,d,K _ _ _ _ _ h,G⟩
theorem Fq {row:Option Nat} {S:Nat→Prop} (F:w.grownBy W row) (o:Obj) (z:Az S (W.alloc o) wA) (G: ∀k,S k→w.heap.size≤k):w.grownBy wA row:=by
 have h:=AF F o;exact⟨z.os.trans h.os,z.tape.trans h.tape,z.output.trans h.output,Ef h.size z.size,fun k hk I=>(z.block k (DP hk h.size) (fun e=>by have:=G k e;omega)).trans (h.block k hk I)⟩
theorem Nl.app (h:Nl w W rb T ts d v acc) (o:Obj) {x:Rd} (F:Own wA 34 3 vA (acc.length+1) (acc.flatMap Rd.cells++x.cells) 0) (z:Az (fun b=>v.ownBlock=some b) (W.alloc o) wA) (G: ∀b,vA.ownBlock=some b→v.ownBlock=some b∨(W.alloc o).heap.size≤b) (I:acc.length+1+ts.length≤500):Nl w wA rb T ts d vA (acc++[x]):=by
 refine⟨(h.st.grown (AF (AB W none) o)).Bl z (fun k e=>by have:=h.new k e;have:=h.Ex;omega),?_,fun b J=>?_,Fq h.gr o z h.new,by rw[BE,Cd];exact I,h.Ex⟩
 ·unfold I4;rw[BE,Cd,List.flatMap_append];simpa using F
 ·rcases G b J with e|e
  ·exact h.new b e
  ·rw[World.size_alloc]at e;have:=h.gr.size;omega
end
theorem Ji (rb:Nat) (T ts:List AX) (d:Nat) (w:World) (h:BS w rb T (.ok ts d)):
  Calls Tryz.prog 125 #[.pointer (some ⟨rb,0,none⟩)] w (NS (TR w) (Wk w) rb T d w (CW ts [])):=by
 have b':=Z (fun W bS (ca:BS W rb T bS)=>EE rb T bS W ca);have bp:=Z (fun s W=>Hq s W);unfold Qb N6 at bp;have cb:=Z (⟨h,Own.nil _ _ _ _,fun b cc=>(by cases cc),AB w _,by have:=h.Aj.2.2.2.1;simp only[List.length_nil];omega,h.lb⟩:Nl w w rb T ts d (.slice none 0 0) []);unfold CW;obtain⟨R,aT⟩: ∃R,Bz (ts.length+1) [] ts []=R:=⟨_,rfl⟩;have cd:=Z aT;rw[aT];clear aT h;go_enter Tryz.func125,Tryz.ntmps125;go_wp2_with fail;go_loopg [3,4,5,6] ts.length (fun g ce cE cF cG wr=> ∃(f:Nat) (acc:List Rd) (aW:List AX),Bz f acc aW []=R∧aW.length<f∧aW.length≤g∧Nl w wr rb T aW d ce acc);case atStart=>exact⟨_,[],ts,cd.out,Nat.lt_succ_self _,BL _,cb.out⟩
 case round=>
  obtain⟨aL,acc,aW,aT,bq,L,aM⟩:=hrel;have aX:=aM.st.Aj;obtain⟨t,r,rfl⟩:=aX.1.ne;have br:=Z aT;have bs:=Z aM;have bt:=Z (A8 bq L);obtain⟨ba,bb,rfl,_,_⟩:=Own.form aM.own;have cf:=Z (aX.2.2.1 t (List.mem_cons_self ..));have cH:=Z aX.1;have cg:=Z aX.2.1;obtain⟨aL,rfl⟩: ∃ch,aL=ch+1:=⟨aL-1,by simp only[BP]at bq;omega⟩;have aY:=Z (fun e:(Value.slice ba acc.length bb).ownBlock=some (wr.heap.size+1)=>(show False by have:=Own.lt aM.own e;omega));have ak:=Z (A8 aM.gr.size (Nat.le_succ_of_le aM.gr.size));clear aT bq L aM aX;obtain⟨aZ,a,f,h,J,ad⟩:=bs.out.st;obtain⟨ac,ar,aC,c3,c4⟩:=h.cells;obtain⟨g,M,aF,a0,a1,rfl,aa,L,ae,al,am,an⟩:=h.DY;have lb:=h.lb;have aw:=h.lt;have ah:(0:Int)≤(a:Int)∧(a:Int)<((T.length:Nat):Int):=(by omega);have ai:=h.tg.len;obtain⟨N,af⟩: ∃N,T.length=N:=⟨_,rfl⟩;have aD:(a:Int)≤500:=(by omega);have aI:=Z h;have aJ:=Z (A8 J ad);have ax:=J.symm.trans ae;injection ax with ay az;subst ay az;rw[af]at ac ah aa ai;have aE:=Y.frozen h.BD 1;clear h J ad ae af aw;obtain⟨z,I,ag⟩:=t;simp only[]at al am an;go_upto_region 3 with(fail);have a2:Hid (∀G:World,wr.grownBy G none→(G.cell? ⟨rb,0,none⟩=some (.slice (some ⟨g,M,none⟩) N aF)∧G.cell? ⟨rb,1,none⟩=some (.int .i64 a)∧G.cell? ⟨g,M+a*3,none⟩=some (.int .i64 z)∧G.cell? ⟨g,M+a*3+1,none⟩=some (.string ⟨I.toArray⟩)∧G.cell? ⟨g,M+a*3+2,none⟩=some (.int .i64 ag))):=
    Z (fun G aA=>⟨AH aA lb ac,AH aA lb ar,AH aA L al,AH aA L am,AH aA L an⟩)
  go_region_held3 (fun G=>G.cell? ⟨rb,0,none⟩=some (.slice (some ⟨g,M,none⟩) N aF)∧G.cell? ⟨rb,1,none⟩=some (.int .i64 a)∧G.cell? ⟨g,M+a*3,none⟩=some (.int .i64 z)∧G.cell? ⟨g,M+a*3+1,none⟩=some (.string ⟨I.toArray⟩)∧G.cell? ⟨g,M+a*3+2,none⟩=some (.int .i64 ag))
    (first|go_keep|exact a2.out _ (by repeat' (first|(with_reducible exact AB _ _)|(with_reducible refine Af ?_ ?_ _)|(with_reducible refine AI ?_ L)|(with_reducible refine Ag ?_)|(with_reducible refine AF ?_ _)|omega|(simp;done))))
    (fail)
  have bT:=Ag (AF (AB wr none) (.cells #[.int .i64 z,.string ⟨I.toArray⟩,.int .i64 ag] 69));have F:=Z (show Y (wr.alloc (.cells #[.int .i64 z,.string ⟨I.toArray⟩,.int .i64 ag] 69)).drew wr.heap.size 69 #[.int .i64 z,.string ⟨I.toArray⟩,.int .i64 ag]from Y.new wr 69 _);have bu:=Z (bs.out.grown bT);have bv:(wr.alloc (.cells #[.int .i64 z,.string ⟨I.toArray⟩,.int .i64 ag] 69)).drew.heap.size=wr.heap.size+1:=World.size_alloc _ _;generalize (wr.alloc (.cells #[.int .i64 z,.string ⟨I.toArray⟩,.int .i64 ag] 69)).drew=bw,wr.heap.size=O at F bu bv aY ak⊢;clear a2 bT;clear ac ar aC c3 c4 al am an L lb ah ai aD aa aE;go_upto_region 5 with(fail);have bx:=AF (AB bw none) (.cells #[.int .i64 (-1),.string ⟨#[]⟩,.string ⟨#[]⟩] 34);have F:=Z (Y.grown F.out bx (by simp));have bc:=Z (bu.out.grown bx);have ab:=Z (Y.new bw 34 #[.int .i64 (-1),.string ⟨#[]⟩,.string ⟨#[]⟩]);rw[bv]at ab;generalize bw.alloc (.cells #[.int .i64 (-1),.string ⟨#[]⟩,.string ⟨#[]⟩] 34)=bd at F bc ab⊢;clear bx bv;obtain⟨K,bz⟩: ∃B,O+1=B:=⟨_,rfl⟩;rw[bz]at ab aY;have ak:=Z (show w.heap.size≤O∧w.heap.size≤K by have:=ak.out;omega);have be:=Z (show O≠K by omega);rw[bz];clear bz;have a3:bd.cell? ⟨O,0,none⟩=some (.int .i64 z):=Y.cell F.out 0;have aN:bd.cell? ⟨O,1,none⟩=some (.string ⟨I.toArray⟩):=Y.cell F.out 1;have aO:=Y.lt F.out;go_upto_if 25 with(fail);go_cut [] (fun wc=> ∃(aG:Int) (o:AX) (q:List AX),Y wc O 69 #[.int .i64 o.k,.string ⟨o.t.toArray⟩,.int .i64 o.a]∧Y wc K 34 #[.int .i64 aG,.string ⟨#[]⟩,.string ⟨#[]⟩]∧Nl w wc rb T (o::q) d (.slice ba acc.length bb) acc∧q.length≤r.length∧(FA o=false→R=.ok acc (o::q) [])∧(FA o=true→ ∀ao aB,q=ao::aB→R=(if Nj (ao::aB)=true then Bz aL (acc++[⟨aG,o.t,ao.t⟩]) aB []else Ay (ao::aB))));case first=>
   by_cases bU:z=3
   · subst bU;obtain⟨c,bV,cI,cJ⟩:=cf.out.2 rfl;simp only[]at bV;subst bV;obtain⟨o,q,bA,bf⟩:=cg.out.2.2.1 rfl;subst bA;have bg:o.k=2:=by
      have ap:=bf;unfold FA at ap;rw[Bool.and_eq_true]at ap;simpa using ap.1
     have ci:=Z bf;have bh:=Z (fun(ao:AX) (aB:List AX) (e:q=ao::aB)=>(show R=(if Nj (ao::aB)=true then Bz aL (acc++[⟨(c.toNat:Int)-48,o.t,ao.t⟩]) aB []else Ay (ao::aB)) by
      subst e;rw[←br.out,Bz];rw[Ah (by simp[bf])];rfl))
     obtain⟨ok,X,a4⟩:=o;simp only[]at bg;subst bg;clear bf;have cj:=BC [c] 0 (by simp);have ck:(48:Int)≤(c.toNat:Int):=(by omega);have cl:(c.toNat:Int)≤57:=(by omega);have cm:bd.cell? ⟨K,0,none⟩=some (.int .i64 (-1)):=Y.cell ab.out 0;have a5:=Y.frozen ab.out 0;have a6:=Y.lt ab.out;go_upto_region 7 with(fail);have aq:=Y.AV ab.out 0 (.int .i64 ((c.toNat:Int)-48));have aH:=Y.Be F.out (p:=⟨K,0,none⟩) be.out (.int .i64 ((c.toNat:Int)-48));have aP:=bc.out.fresh (B:=K) ak.out.2 aY.out 0 (.int .i64 ((c.toNat:Int)-48));generalize bd.setCell ⟨K,0,none⟩ (.int .i64 ((c.toNat:Int)-48))=a7 at aq aH aP⊢;have ab:Hid (Y a7 K 34 #[.int .i64 ((c.toNat:Int)-48),.string ⟨#[]⟩,.string ⟨#[]⟩]):=Z aq;have F:=Z aH;have bi:=Z aP;clear aq aH aP a3 aN aO cm a5 a6 cj ck cl;obtain⟨aZ,a,f,h,J,ad⟩:=bi.out.st;obtain⟨ac,ar,aC,c3,c4⟩:=h.cells;obtain⟨g,M,aF,a0,a1,rfl,aa,L,ae,al,am,an⟩:=h.DY;have lb:=h.lb;have aw:=h.lt;have ah:(0:Int)≤(a:Int)∧(a:Int)<((T.length:Nat):Int):=(by omega);have ai:=h.tg.len;obtain⟨N,af⟩: ∃N,T.length=N:=⟨_,rfl⟩;have aD:(a:Int)≤500:=(by omega);have aI:=Z h;have aJ:=Z (A8 J ad);have ax:=J.symm.trans ae;injection ax with ay az;subst ay az;rw[af]at ac ah aa ai;have aE:=Y.frozen h.BD 1;clear h J ad ae af aw;go_upto_region 8 with(fail);have aq:=Y.Be ab.out (p:=⟨rb,1,none⟩) (show K≠rb by have:=ak.out.2;have:=bi.out.Ex;omega) (.int .i64 ((a:Int)+1));have aH:=Y.Be F.out (p:=⟨rb,1,none⟩) (show O≠rb by have:=ak.out.1;have:=bi.out.Ex;omega) (.int .i64 ((a:Int)+1));have bB:=bi.out.next aI.out aJ.out (by show(3:Nat)≠4;decide);generalize a7.setCell ⟨rb,1,none⟩ (.int .i64 ((a:Int)+1))=bj at aq aH bB⊢;have ab:=Z aq;have F:=Z aH;have aQ:=Z bB;clear aq aH bB;clear ac ar aC c3 c4 al am an L lb ah ai aD aa aE;obtain⟨aZ,a,f,h,J,ad⟩:=aQ.out.st;obtain⟨ac,ar,aC,c3,c4⟩:=h.cells;obtain⟨g,M,aF,a0,a1,rfl,aa,L,ae,al,am,an⟩:=h.DY;have lb:=h.lb;have aw:=h.lt;have ah:(0:Int)≤(a:Int)∧(a:Int)<((T.length:Nat):Int):=(by omega);have ai:=h.tg.len;obtain⟨N,af⟩: ∃N,T.length=N:=⟨_,rfl⟩;have aD:(a:Int)≤500:=(by omega);have aI:=Z h;have aJ:=Z (A8 J ad);have ax:=J.symm.trans ae;injection ax with ay az;subst ay az;rw[af]at ac ah aa ai;have aE:=Y.frozen h.BD 1;clear h J ad ae af aw;have cK:=Y.frozen F.out 0;have cL:=Y.frozen F.out 1;have cM:=Y.frozen F.out 2;have aO:=Y.lt F.out;have a3:bj.cell? ⟨O,0,none⟩=some (.int .i64 3):=Y.cell F.out 0;have aN:bj.cell? ⟨O,1,none⟩=some (.string ⟨[c].toArray⟩):=Y.cell F.out 1;have cN:bj.cell? ⟨O,2,none⟩=some (.int .i64 ag):=Y.cell F.out 2;refine Bf 10 (by kernel_rfl) (by kernel_rfl) ?_;simp only[List.take_succ_cons,List.take_zero,List.drop_succ_cons,List.drop_zero];repeat(go_big_quiet_step (fail))
     refine wpQuiet_nil ?_;rintro _ ⟨nq,rfl⟩;go_wp2
     go_meet;have bC:=As (AB bj none) nq;have aH:=((Y.AV (Y.grown F.out bC (by simp)) 0 (.int .i64 ((2:Nat):Int))).AV 1 (.string ⟨X.toArray⟩)).AV 2 (.int .i64 a4);have aq:=((Y.Be (Y.grown ab.out bC (by simp)) (p:=⟨O,0,none⟩) (fun e=>be.out e.symm) (.int .i64 ((2:Nat):Int))).Be (p:=⟨O,1,none⟩) (fun e=>be.out e.symm) (.string ⟨X.toArray⟩)).Be (p:=⟨O,2,none⟩) (fun e=>be.out e.symm) (.int .i64 a4);have bD: ¬(Value.slice ba acc.length bb).ownBlock=some O:=fun e=>Ai ((Own.AN aQ.out.own e).uniq F.out.AN) (by decide)
     have a8:=(((aQ.out.grown bC).fresh (B:=O) ak.out.1 bD 0 (.int .i64 ((2:Nat):Int))).fresh (B:=O) ak.out.1 bD 1 (.string ⟨X.toArray⟩)).fresh (B:=O) ak.out.1 bD 2 (.int .i64 a4);exact⟨_,⟨2,X,a4⟩,q,aH,aq,a8,by simp only[BP];omega,fun e=>Ai (ci.out.symm.trans e) (by decide),fun _=>bh.out⟩
   · have bW:((z:Int)==3)=false:=(by rw[beq_eq_false_iff_ne];omega);have bX:=Z (show(z==3)=false by rw[beq_eq_false_iff_ne];exact bU);go_wp2_with fail;go_meet;refine⟨-1,⟨z,I,ag⟩,r,F.out,ab.out,bc.out,BL _,fun e=>?_,fun e ao aB bA=>?_⟩
     ·rw[←br.out,Bz];rw[U (by simp only[bX.out,Bool.false_and];decide),U (by rw[e];decide)]
     ·subst bA;rw[←br.out,Bz];rw[U (by simp only[bX.out,Bool.false_and];decide),Ah e];rfl
  case rest=>
   obtain⟨aG,o,q,ap,bY,bZ,bk,b0,b1⟩:=hcut;have F:=Z ap;have ab:=Z bY;have au:=Z bZ;have cn:=Z bk;have b2:=Z b0;have co:=Z b1;clear ap bY bZ bk b0 b1 bc bu a3 aN aO;obtain⟨bE,aR⟩: ∃bE,FA o=bE:=⟨_,rfl⟩;have bF:=Z aR;obtain⟨ok,X,a4⟩:=o;have a3:wc.cell? ⟨O,0,none⟩=some (.int .i64 ok):=Y.cell F.out 0;have aN:wc.cell? ⟨O,1,none⟩=some (.string ⟨X.toArray⟩):=Y.cell F.out 1;have aO:=Y.lt F.out;cases bE with
   |false=>
     by_cases cp:ok=2
     ·subst cp;have a9:=Z (fun W=>by have:=bp.out X W;rw[show Fv.contains X=false from aR]at this;exact this);unfold sv at a9;clear aR;go_wp2_with fail;refine(a9.out _).mono ?_;rintro e bl ⟨rfl,aS⟩;have aj:=Z (au.out.grown aS);clear aS;go_wp2_with fail;rw[b2.out bF.out];go_ret;exact⟨_,rfl,⟨aj.out.own,aj.out.new,by have:=aj.out.len;omega⟩,aj.out.st,aj.out.gr⟩
     ·have aB:((ok:Int) !=2)=true:=(by rw[bne_iff_ne];omega);clear aR;go_wp2_with fail;rw[b2.out bF.out];go_ret;exact⟨_,rfl,⟨au.out.own,au.out.new,by have:=au.out.len;omega⟩,au.out.st,au.out.gr⟩
   |true=>
     have bg:ok=2:=by
      have ap:=aR;unfold FA at ap;rw[Bool.and_eq_true]at ap;simpa using ap.1
     subst bg;have a9:=Z (fun W=>by have:=bp.out X W;rw[show Fv.contains X=true from aR]at this;exact this);unfold sv at a9;have cq:=Z (au.out.st.Aj.1.tail (by show(2:Nat)≠4;decide));obtain⟨ao,q,rfl⟩:=cq.out.ne;have bh:=Z (co.out bF.out ao q rfl);clear aR;go_wp2_with fail;refine(a9.out _).mono ?_;rintro e bl ⟨rfl,aS⟩;have F:=Z (Y.grown F.out aS (by simp));have ab:=Z (Y.grown ab.out aS (by simp));have aj:=Z (au.out.grown aS);clear aS a3 aN aO;have aN:bl.cell? ⟨O,1,none⟩=some (.string ⟨X.toArray⟩):=Y.cell F.out 1;have aO:=Y.lt F.out;have cr:bl.cell? ⟨K,1,none⟩=some (.string ⟨#[]⟩):=Y.cell ab.out 1;have a5:=Y.frozen ab.out 1;have a6:=Y.lt ab.out;go_upto_region 11 with(fail);have aq:=Y.AV ab.out 1 (.string ⟨X.toArray⟩);have aP:=aj.out.fresh (B:=K) ak.out.2 aY.out 1 (.string ⟨X.toArray⟩);generalize bl.setCell ⟨K,1,none⟩ (.string ⟨X.toArray⟩)=a7 at aq aP⊢;have cs:=Z (show Y a7 K 34 #[.int .i64 aG,.string ⟨X.toArray⟩,.string ⟨#[]⟩]from aq);have aQ:=Z aP;clear aq aP aN aO cr a5 a6;obtain⟨aZ,a,f,h,J,ad⟩:=aQ.out.st;obtain⟨ac,ar,aC,c3,c4⟩:=h.cells;obtain⟨g,M,aF,a0,a1,rfl,aa,L,ae,al,am,an⟩:=h.DY;have lb:=h.lb;have aw:=h.lt;have ah:(0:Int)≤(a:Int)∧(a:Int)<((T.length:Nat):Int):=(by omega);have ai:=h.tg.len;obtain⟨N,af⟩: ∃N,T.length=N:=⟨_,rfl⟩;have aD:(a:Int)≤500:=(by omega);have aI:=Z h;have aJ:=Z (A8 J ad);have ax:=J.symm.trans ae;injection ax with ay az;subst ay az;rw[af]at ac ah aa ai;have aE:=Y.frozen h.BD 1;clear h J ad ae af aw;go_upto_region 12 with(fail);have bG:=Y.Be cs.out (p:=⟨rb,1,none⟩) (show K≠rb by have:=ak.out.2;have:=aQ.out.Ex;omega) (.int .i64 ((a:Int)+1));have a8:=aQ.out.next aI.out aJ.out (by show(2:Nat)≠4;decide);generalize a7.setCell ⟨rb,1,none⟩ (.int .i64 ((a:Int)+1))=aK at bG a8⊢;have b3:=Z bG;have b4:=Z a8;clear ac ar aC c3 c4 al am an L lb ah ai aD aa aE bG a8;obtain⟨z,I,ag⟩:=ao;obtain⟨aZ,a,f,h,J,ad⟩:=b4.out.st;obtain⟨ac,ar,aC,c3,c4⟩:=h.cells;obtain⟨g,M,aF,a0,a1,rfl,aa,L,ae,al,am,an⟩:=h.DY;have lb:=h.lb;have aw:=h.lt;have ah:(0:Int)≤(a:Int)∧(a:Int)<((T.length:Nat):Int):=(by omega);have ai:=h.tg.len;obtain⟨N,af⟩: ∃N,T.length=N:=⟨_,rfl⟩;have aD:(a:Int)≤500:=(by omega);have aI:=Z h;have aJ:=Z (A8 J ad);have ax:=J.symm.trans ae;injection ax with ay az;subst ay az;rw[af]at ac ah aa ai;have aE:=Y.frozen h.BD 1;clear h J ad ae af aw;have a2:Hid (∀G:World,aK.grownBy G none→(G.cell? ⟨rb,0,none⟩=some (.slice (some ⟨g,M,none⟩) N aF)∧G.cell? ⟨rb,1,none⟩=some (.int .i64 a)∧G.cell? ⟨g,M+a*3,none⟩=some (.int .i64 z)∧G.cell? ⟨g,M+a*3+1,none⟩=some (.string ⟨I.toArray⟩)∧G.cell? ⟨g,M+a*3+2,none⟩=some (.int .i64 ag))):=
      Z (fun G aA=>⟨AH aA lb ac,AH aA lb ar,AH aA L al,AH aA L am,AH aA L an⟩)
     go_region_held3 (fun G=>G.cell? ⟨rb,0,none⟩=some (.slice (some ⟨g,M,none⟩) N aF)∧G.cell? ⟨rb,1,none⟩=some (.int .i64 a)∧G.cell? ⟨g,M+a*3,none⟩=some (.int .i64 z)∧G.cell? ⟨g,M+a*3+1,none⟩=some (.string ⟨I.toArray⟩)∧G.cell? ⟨g,M+a*3+2,none⟩=some (.int .i64 ag))
      (first|go_keep|exact a2.out _ (by repeat' (first|(with_reducible exact AB _ _)|(with_reducible refine Af ?_ ?_ _)|(with_reducible refine AI ?_ L)|(with_reducible refine Ag ?_)|(with_reducible refine AF ?_ _)|omega|(simp;done))))
      (fail)
     have bH:=Ag (AF (AB aK none) (.cells #[.int .i64 z,.string ⟨I.toArray⟩,.int .i64 ag] 69));have a':=Z (Y.grown b3.out bH (by simp));have aj:=Z (b4.out.grown bH);have bm:=Z (show Y (aK.alloc (.cells #[.int .i64 z,.string ⟨I.toArray⟩,.int .i64 ag] 69)).drew aK.heap.size 69 #[.int .i64 z,.string ⟨I.toArray⟩,.int .i64 ag]from Y.new aK 69 _);have ct:=Z (show K<aK.heap.size from Y.lt b3.out);generalize (aK.alloc (.cells #[.int .i64 z,.string ⟨I.toArray⟩,.int .i64 ag] 69)).drew=bn,aK.heap.size=b5 at a' aj bm ct⊢;clear a2 bH;clear ac ar aC c3 c4 al am an L lb ah ai aD aa aE;have cu:bn.cell? ⟨b5,0,none⟩=some (.int .i64 z):=Y.cell bm.out 0;have cv:bn.cell? ⟨b5,1,none⟩=some (.string ⟨I.toArray⟩):=Y.cell bm.out 1;have cw:=Y.lt bm.out;go_upto_region 13 with(fail);by_cases aU:z=1∨z=3
     ·have bI:=Z (show R=Bz aL (acc++[⟨aG,X,I⟩]) q [] by rw[bh.out,Ah];unfold Nj;rcases aU with e|e<;>rw[e]<;>rfl);have cx:=Z (show z≠4 by omega);have bJ: ∀(bo:Prop),(((z:Int) !=1)=false→bo)→(((z:Int) !=1)=true→((z:Int) !=3)=false→bo)→bo:=fun bo a b=>by
       rcases aU with e|e
       ·exact a (by rw[e];rfl)
       ·exact b (by rw[e];rfl) (by rw[e];rfl)
      clear aU;go_cut [85] (fun cy wc=>cy=.bool false∧wc=bn);case first=>
       refine bJ _ (fun b6=>?_) (fun b6 bW=>?_);all_goals(
        clear bJ;go_wp2_with fail;go_meet;exact⟨rfl,rfl⟩)
      case rest=>
       clear bJ;obtain⟨rfl,cz⟩:=hcut;subst cz;have cA:wc.cell? ⟨K,2,none⟩=some (.string ⟨#[]⟩):=Y.cell a'.out 2;have a5:=Y.frozen a'.out 2;have a6:=Y.lt a'.out;go_upto_region 16 with(fail);have bK:=Y.AV a'.out 2 (.string ⟨I.toArray⟩);have bL:=aj.out.fresh (B:=K) ak.out.2 aY.out 2 (.string ⟨I.toArray⟩);generalize wc.setCell ⟨K,2,none⟩ (.string ⟨I.toArray⟩)=b7 at bK bL⊢;have cB:=Z (show Y b7 K 34 #[.int .i64 aG,.string ⟨X.toArray⟩,.string ⟨I.toArray⟩]from bK);have au:=Z bL;clear bK bL cu cv cw cA a5 a6;obtain⟨aZ,a,f,h,J,ad⟩:=au.out.st;obtain⟨ac,ar,aC,c3,c4⟩:=h.cells;obtain⟨g,M,aF,a0,a1,rfl,aa,L,ae,al,am,an⟩:=h.DY;have lb:=h.lb;have aw:=h.lt;have ah:(0:Int)≤(a:Int)∧(a:Int)<((T.length:Nat):Int):=(by omega);have ai:=h.tg.len;obtain⟨N,af⟩: ∃N,T.length=N:=⟨_,rfl⟩;have aD:(a:Int)≤500:=(by omega);have aI:=Z h;have aJ:=Z (A8 J ad);have ax:=J.symm.trans ae;injection ax with ay az;subst ay az;rw[af]at ac ah aa ai;have aE:=Y.frozen h.BD 1;clear h J ad ae af aw;go_upto_region 17 with(fail);have aV:=Y.Be cB.out (p:=⟨rb,1,none⟩) (show K≠rb by have:=ak.out.2;have:=au.out.Ex;omega) (.int .i64 ((a:Int)+1));have bM:=au.out.next aI.out aJ.out cx.out;generalize b7.setCell ⟨rb,1,none⟩ (.int .i64 ((a:Int)+1))=bN at aV bM⊢;have cO:bN.cell? ⟨K,0,none⟩=some (.int .i64 aG):=Y.cell aV 0;have cP:bN.cell? ⟨K,1,none⟩=some (.string ⟨X.toArray⟩):=Y.cell aV 1;have cQ:bN.cell? ⟨K,2,none⟩=some (.string ⟨I.toArray⟩):=Y.cell aV 2;have cR:=Y.lt aV;have b8:=Z bM;have cC:=bs.out.len;have bk:=cn.out;simp only[BP]at cC bk;clear ac ar aC c3 c4 al am an L lb ah ai aD aa aE aV bM;go_wp2_with (at_builtin;refine AU 34 (.agg #[.int .i64 0,.string ⟨#[]⟩,.string ⟨#[]⟩]) 3 40 Tryz.underlying28 J6 rfl (.slice ba acc.length bb) acc.length (acc.flatMap Rd.cells) 0 _ 1 (Rd.cells ⟨aG,X,I⟩) rfl rfl (Own.alloc b8.out.own _) (by omega) (Vk _ _ ⟨aG,X,I⟩ rfl) (by unfold maxLen;omega) (by omega) ?_;intro vA wA bO aa b9 _;(have cD:=Z (Nl.app b8.out _ bO aa b9 (by omega)));(obtain⟨cS,cT,rfl,_,_⟩:=Own.form bO);clear bO aa b9);go_roundg (gk-1);case rel=>exact⟨aL,_,q,bI.out.symm,by have:=bt.out.1;simp only[BP]at this;omega,by have:=bt.out.2;simp only[BP]at this;omega,by simpa using cD.out⟩
       case measure=>have:=bt.out.2;simp only[BP]at this;omega
     ·have bI:=Z (show R=.bad ag (if z=4 then 23 else 17)from bh.out.trans (U (by unfold Nj;simp only[not_or]at aU;simp[aU.1,aU.2])));have b6:((z:Int) !=1)=true:=(by rw[bne_iff_ne];omega);have bW:((z:Int) !=3)=true:=(by rw[bne_iff_ne];omega);have bP:=Z (b'.out bn _ aj.out.st);unfold Ev Qu at bP;simp only[]at bP;go_wp2_with fail;refine bP.out.mono ?_;rintro e cU ⟨rfl,ap,bQ⟩;have bR:=Z (A8 ap (A8 (Da bQ aj.out.st.AN aj.out.own (by decide)) (AJ aj.out.gr bQ)));clear ap bQ;go_wp2_with fail;rw[bI.out];go_ret;exact⟨_,rfl,⟨acc,bR.out.2.1,aj.out.new,by have:=aj.out.len;omega⟩,bR.out.1,bR.out.2.2⟩
end
end Go.Proofs.YtdhfhphbkfgamaaGreat
