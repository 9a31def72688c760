/- PrintTells: a part of its proof. -/
import Derived.Shelf.Strings.OnBuilder
import Derived.Test.YtdhfhphbkfgamaaGreatTe
set_option maxRecDepth 100000
set_option maxHeartbeats 64000000
namespace Go.Proofs.YtdhfhphbkfgamaaGreat
section
open Go.RowKit Lx
theorem Z1k {P:Prop} (h:P:=by
 go_enter Tryz.func25,Tryz.ntmps25;go_upto_region 1 with(first|(refine BI _ L B (by exact rfl) ao.out aD.out ?_));go_wp2_with fail;go_ret;exact⟨rfl,am.out,an.out⟩):P:=h
theorem Z1l {P:Prop} (h:P:=by
 go_wp2_with fail;go_ret;exact⟨rfl,aE.out.grown a1.out,a2.out⟩):P:=h
theorem Qr (n0 ak m:Nat) (l:List V) (bz:Cx l) (bA:m≤l.length) (b:List UInt8) (n:V) (a3 a4 a5 a6 a7:Value) (w:World) (hk:Il n m) (aq:CA n0 w ak l b) (ar:FP n0 w a3 a4 a5 a6 a7 n):
  Calls Tryz.prog 25 #[.pointer (some ⟨ak,0,none⟩),.agg (AT n a3 a4 a5 a6 a7).toArray] w fun e w'=>e=.returned (.bool (Dc l n))∧CA n0 w' ak l b∧PF n0 w w':=by
 obtain⟨au,aw,ax,ay,az,c3,aA,c4,a,al,rfl,rfl,rfl,rfl,rfl⟩:=ar.C1;have bB:=hk.1;have ai:=Y.new w 32 #[.int .i64 n.kind,.string ⟨n.name.toArray⟩,.bool n.A5,.slice au n.AY.length aw,.slice ax n.words.length ay,.slice az n.AK.length c3,.slice aA n.AS.length c4,.slice a n.kids.length al];have aj:=World.grownBy_alloc w (.cells #[.int .i64 n.kind,.string ⟨n.name.toArray⟩,.bool n.A5,.slice au n.AY.length aw,.slice ax n.words.length ay,.slice az n.AK.length c3,.slice aA n.AS.length c4,.slice a n.kids.length al] 32) none;have a8:=Z (FP.pf ar (PF.AL (n0:=n0) aj));have am:=Z (aq.grown aj);have an:=Z (PF.AL (n0:=n0) aj);obtain⟨L,aB⟩: ∃L,w.alloc (.cells #[.int .i64 n.kind,.string ⟨n.name.toArray⟩,.bool n.A5,.slice au n.AY.length aw,.slice ax n.words.length ay,.slice az n.AK.length c3,.slice aA n.AS.length c4,.slice a n.kids.length al] 32)=L:=⟨_,rfl⟩;rw[aB]at ai a8 am an;have ao:=Z aB;obtain⟨B,aC⟩: ∃B,w.heap.size=B:=⟨_,rfl⟩;rw[aC]at ai;have aD:=Z aC;have bC:=Z ai;have a9:=Y.cell ai 7;have bl:=Y.lt ai;unfold AT;have aE:=Z aq;have bm:=Z aj;clear aB aC ai aq ar aj;unfold sv;by_cases bD:n.kids.length<3
 ·have G:decide ((n.kids.length:Int)<3)=true:=At (by omega);have K:Dc l n=false:=(by unfold Dc;rw[List.getElem?_eq_none (by omega)]);rw[K];clear K;exact Z1k
 ·have G:decide ((n.kids.length:Int)<3)=false:=Aq (by omega);have aF:2<n.kids.length:=(by omega);have bE:(2:Int)<(n.kids.length:Int):=(by omega);obtain⟨a',ba,bn,bo,aG⟩:=(E0.get a8.out.kids 2 aF);have bp:=hk.2 n.kids[2] (List.getElem_mem aF);have K:Dc l n=(decide ((0:Int)≤n.kids[2])&&(JO l n.kids[2]).kind==10&&(JO l n.kids[2]).AK.isEmpty):=(by unfold Dc;rw[List.getElem?_eq_getElem aF]);obtain⟨k,bb⟩: ∃k,n.kids[2]=k:=⟨_,rfl⟩;rw[bb]at aG bp K;subst bn;clear bb;by_cases bq:k<0
  ·have I:decide (k<0)=true:=At bq;have bc:Dc l n=false:=(by rw[K,Aq (by omega)];rfl);rw[bc];clear K bc;exact Z1k
  ·obtain⟨j,rfl⟩: ∃j:Nat,k=j:=⟨k.toNat,by omega⟩;have I:decide ((j:Int)<0)=false:=Aq (by omega);have bd:j<l.length:=(by omega);have bF:(0:Int)≤j∧(j:Int)<(l.length:Int):=(by omega);rw[At (by omega),Bool.true_and,KJ rfl bd]at K;obtain⟨v,p,bG,aH,br,be,bH⟩:=am.out;have bf:=aH.cells.1;have bs:=Y.lt aH.BD;obtain⟨M,N,bt,bI,bJ,bK,bL,bM,rfl,bu,bN,ah,bg,aI,ap,aJ,aK,aL,aM,aN,aO⟩:=be.at_ j bd;obtain⟨aP,aQ,aR,aS,aT,aU,aV,aW,aX,aY,rfl,rfl,rfl,rfl,rfl⟩:=bg.C1;obtain⟨h,bh⟩: ∃h,l[j]=h:=⟨_,rfl⟩;rw[bh]at aI ap aJ aK aL aM aN aO K;rw[K];unfold sv at ap;clear K bh bg be aH br bu;have bi:h.AK.isEmpty=((h.AK.length:Int)==0):=by
    cases h.AK with
    |nil=>rfl
    |cons x r=>
     symm
     show(((x::r).length:Int)==0)=false;rw[beq_eq_false_iff_ne,BP];omega
   rw[bi];clear bi;obtain⟨aZ,bv⟩: ∃aZ,(h.kind==10)=aZ:=⟨_,rfl⟩;obtain⟨a0,bw⟩: ∃a0,((h.AK.length:Int)==0)=a0:=⟨_,rfl⟩;rw[bv,bw];have bj:w.grownBy (L.drew.alloc (.cells #[.int .i64 h.kind,.string ⟨h.name.toArray⟩,.bool h.A5,.slice aP h.AY.length aQ,.slice aR h.words.length aS,.slice aT h.AK.length aU,.slice aV h.AS.length aW,.slice aX h.kids.length aY] 32)) none:=by
    have:=bm.out;rw[ao.out]at this;exact AF (Ag this) _
   have a1:=Z bj;have a2:=Z ((an.out.drew).alloc (.cells #[.int .i64 h.kind,.string ⟨h.name.toArray⟩,.bool h.A5,.slice aP h.AY.length aQ,.slice aR h.words.length aS,.slice aT h.AK.length aU,.slice aV h.AS.length aW,.slice aX h.kids.length aY] 32));clear bj;go_enter Tryz.func25,Tryz.ntmps25;go_upto_region 1 with(first|(refine BI _ L B (by exact rfl) ao.out aD.out ?_));go_upto_region 3 with(fail);refine Cs [0,1,2,3,4,5,6,7,8,9] [10,11] (by kernel_rfl) (by kernel_rfl) (fun J=>J.cell? ⟨ak,0,none⟩=some (.slice (some ⟨M,N,none⟩) l.length bt)∧J.cell? ⟨B,7,none⟩=some (.slice (some ⟨a',ba,none⟩) n.kids.length al)∧J.cell? ⟨a',ba+2,none⟩=some (.int .i64 j)∧J.cell? ⟨M,N+j*8,none⟩=some (.int .i64 h.kind)∧J.cell? ⟨M,N+j*8+1,none⟩=some (.string ⟨h.name.toArray⟩)∧J.cell? ⟨M,N+j*8+2,none⟩=some (.bool h.A5)∧J.cell? ⟨M,N+j*8+3,none⟩=some (.slice aP h.AY.length aQ)∧J.cell? ⟨M,N+j*8+4,none⟩=some (.slice aR h.words.length aS)∧J.cell? ⟨M,N+j*8+5,none⟩=some (.slice aT h.AK.length aU)∧J.cell? ⟨M,N+j*8+6,none⟩=some (.slice aV h.AS.length aW)∧J.cell? ⟨M,N+j*8+7,none⟩=some (.slice aX h.kids.length aY)) ⟨bf,a9,aG,aI,ap,aJ,aK,aL,aM,aN,aO⟩ ?_;simp only[pick,List.getElem?_cons_zero,List.getElem?_cons_succ];refine AQ ?_ (by rfl) ?_ ?_;rotate_left
   ·(intro O z;obtain⟨W,X,aa,G,I,ab,ac,ad,ae,af,ag⟩:=z;go_simp;try with_reducible rfl)
   simp only[Act.put,BH,BF,BG];refine AQ ?_ (by rfl) ?_ ?_;rotate_left
   ·(intro O z;obtain⟨W,X,aa,G,I,ab,ac,ad,ae,af,ag⟩:=z;go_simp;try with_reducible rfl)
   simp only[Act.put,BH,BF,BG];refine AQ ?_ (by rfl) ?_ ?_;rotate_left
   ·(intro O z;obtain⟨W,X,aa,G,I,ab,ac,ad,ae,af,ag⟩:=z;go_simp;try with_reducible rfl)
   simp only[Act.put,BH,BF,BG];refine AQ ?_ (by rfl) ?_ ?_;rotate_left
   ·(intro O z;obtain⟨W,X,aa,G,I,ab,ac,ad,ae,af,ag⟩:=z;go_simp;try with_reducible rfl)
   simp only[Act.put,BH,BF,BG];refine AQ ?_ (by rfl) ?_ ?_;rotate_left
   ·(intro O z;obtain⟨W,X,aa,G,I,ab,ac,ad,ae,af,ag⟩:=z;go_simp;try with_reducible rfl)
   simp only[Act.put,BH,BF,BG];refine AQ ?_ (by rfl) ?_ ?_;rotate_left
   ·(intro O z;obtain⟨W,X,aa,G,I,ab,ac,ad,ae,af,ag⟩:=z;go_simp;try with_reducible rfl)
   simp only[Act.put,BH,BF,BG];refine AQ ?_ (by rfl) ?_ ?_;rotate_left
   ·(intro O z;obtain⟨W,X,aa,G,I,ab,ac,ad,ae,af,ag⟩:=z;go_simp;try with_reducible rfl)
   simp only[Act.put,BH,BF,BG];refine AQ ?_ (by rfl) ?_ ?_;rotate_left
   ·(intro O z;obtain⟨W,X,aa,G,I,ab,ac,ad,ae,af,ag⟩:=z;go_simp;try with_reducible rfl)
   simp only[Act.put,BH,BF,BG];refine AQ ?_ (by rfl) ?_ ?_;rotate_left
   ·(intro O z;obtain⟨W,X,aa,G,I,ab,ac,ad,ae,af,ag⟩:=z;go_simp;try with_reducible rfl)
   simp only[Act.put,BH,BF,BG];refine AQ ?_ (by rfl) ?_ ?_;rotate_left
   ·(intro O z;obtain⟨W,X,aa,G,I,ab,ac,ad,ae,af,ag⟩:=z;go_simp;try with_reducible rfl)
   simp only[Act.put,BH,BF,BG];refine CP ?_;refine Ae fun bx bk=>?_
   refine AZ (.pointer (some ⟨L.heap.size,0,none⟩)) (L.drew.alloc (.cells #[.int .i64 0,.string ⟨#[]⟩,.bool false,.slice none 0 0,.slice none 0 0,.slice none 0 0,.slice none 0 0,.slice none 0 0] 32)) (by rfl) (by go_simp) ?_;have F:=AF (Ag (AB L none)) (.cells #[.int .i64 0,.string ⟨#[]⟩,.bool false,.slice none 0 0,.slice none 0 0,.slice none 0 0,.slice none 0 0,.slice none 0 0] 32);refine bk.out _ _ ⟨AH F bs bf,AH F bl a9,AH F bo aG,AH F ah aI,AH F ah ap,AH F ah aJ,AH F ah aK,AH F ah aL,AH F ah aM,AH F ah aN,AH F ah aO⟩ ?_;simp only[Act.put,BH,BF,BG];refine CN ?_;clear F bk bx;go_wp2_with fail;refine NoPanic.normal ?_;cases aZ with
   |true=>cases a0 with
    |true=>
     exact Z1l
    |false=>
     exact Z1l
   |false=>
    exact Z1l
end
section
open Go.RowKit Lx Go.Shelf
def WY:Ren:=⟨fun|156=>55|165=>76|166=>53|169=>11|240=>75|241=>93|276=>92|277=>102|n=>n,fun|0=>0|3=>3|4=>4|9=>9|20=>20|31=>27|37=>37|70=>36|72=>39|75=>90|76=>91|127=>59|164=>120|5=>5|80=>43|n=>n,fun n=>n⟩
theorem Ou:Lays.n156 Tryz.prog WY:= {
 mixed:=by kernel_rfl,
 f156:=Tryz.func55.trans (congrArg some (by kernel_rfl)),
 f165:=Tryz.func76.trans (congrArg some (by kernel_rfl)),
 f166:=Tryz.func53.trans (congrArg some (by kernel_rfl)),
 f169:=Tryz.func11.trans (congrArg some (by kernel_rfl)),
 f240:=Tryz.func75.trans (congrArg some (by kernel_rfl)),
 f241:=Tryz.func93.trans (congrArg some (by kernel_rfl)),
 f276:=Tryz.func92.trans (congrArg some (by kernel_rfl)),
 f277:=Tryz.func102.trans (congrArg some (by kernel_rfl)),
 t0:=Tryz.underlying0,
 a0:=Tryz.isAgg0,
 z0:=Tryz.sizeOf0,
 v0:=Tryz.zeroValue0,
 t3:=Tryz.underlying3,
 a3:=Tryz.isAgg3,
 z3:=Tryz.sizeOf3,
 v3:=Tryz.zeroValue3,
 t4:=Tryz.underlying4,
 a4:=Tryz.isAgg4,
 z4:=Tryz.sizeOf4,
 v4:=Tryz.zeroValue4,
 t9:=Tryz.underlying9,
 a9:=Tryz.isAgg9,
 z9:=Tryz.sizeOf9,
 v9:=Tryz.zeroValue9,
 t20:=Tryz.underlying20,
 a20:=Tryz.isAgg20,
 z20:=Tryz.sizeOf20,
 v20:=Tryz.zeroValue20,
 t31:=Tryz.underlying27,
 a31:=Tryz.isAgg27,
 z31:=Tryz.sizeOf27,
 v31:=Tryz.zeroValue27,
 t37:=Tryz.underlying37,
 a37:=Tryz.isAgg37,
 z37:=Tryz.sizeOf37,
 v37:=Tryz.zeroValue37,
 t70:=Tryz.underlying36,
 a70:=Tryz.isAgg36,
 z70:=Tryz.sizeOf36,
 v70:=Tryz.zeroValue36,
 t72:=Tryz.underlying39,
 a72:=Tryz.isAgg39,
 z72:=Tryz.sizeOf39,
 v72:=Tryz.zeroValue39,
 t75:=Tryz.underlying90,
 a75:=Tryz.isAgg90,
 z75:=Tryz.sizeOf90,
 v75:=Tryz.zeroValue90,
 t76:=Tryz.underlying91,
 a76:=Tryz.isAgg91,
 z76:=Tryz.sizeOf91,
 v76:=Tryz.zeroValue91,
 t127:=Tryz.underlying59,
 a127:=Tryz.isAgg59,
 z127:=Tryz.sizeOf59,
 v127:=Tryz.zeroValue59,
 t164:=Tryz.underlying120,
 a164:=Tryz.isAgg120,
 z164:=Tryz.sizeOf120,
 v164:=Tryz.zeroValue120 }
theorem RZ:Builder.Extra Tryz.prog WY:= {
 sizeBuilder:=by kernel_rfl,
 liesBuilder:=by kernel_rfl,
 t5:=Tryz.underlying5,
 a5:=Tryz.isAgg5,
 z5:=Tryz.sizeOf5,
 v5:=Tryz.zeroValue5,
 infoByte:=by kernel_rfl,
 cellsByte:=by kernel_rfl,
 sizeByte:=by kernel_rfl,
 neB5:=by decide }
theorem Sq (h:List (List UInt8)) (z:List UInt8):Lib.join ((h.map fun l=>(ByteArray.mk l.toArray)).map (·.data.toList)) (ByteArray.mk z.toArray).data.toList=Lib.join h z:=by
 congr 1
 ·induction h with
  |nil=>rfl
  |cons x r ih=>simp[ih]
theorem XD (h o c:Nat) (xs:List ByteArray) (z:ByteArray) (w:World)
  (F: ∀(j:Nat) x,xs[j]? =some x→w.cell? ⟨h,o+j,none⟩=some (.string x)) (G:h<w.heap.size) (I:xs.length≤140737488355328) (J:xs.length≤c)
  (K:(Lib.join (xs.map (·.data.toList)) z.data.toList).length≤140737488355328):
  Calls Tryz.prog 55 #[.slice (some ⟨h,o,none⟩) xs.length c,.string z] w fun e w'=>e=.returned (.string ⟨(Lib.join (xs.map (·.data.toList)) z.data.toList).toArray⟩)∧Below w.heap.size w w':=
 Any.strings_Join Ou RZ h o c xs z w F G I J K
theorem VG (a:Option Addr) (c:Nat) (h:ByteArray) (w:World):Calls Tryz.prog 55 #[.slice a 0 c,.string h] w fun e w'=>e=.returned (.string ⟨#[]⟩)∧w'=w:=
 Any.strings_Join_none Ou RZ a c h w
theorem NA (h:List (List UInt8)) (z:List UInt8) (v:Value) (w:World) (L:Rows w v h.length (h.map sv)) (M:h.length≤140737488355328) (N:(Lib.join h z).length≤140737488355328):
  Calls Tryz.prog 55 #[v,sv z] w fun e w'=>e=.returned (sv (Lib.join h z))∧w.grownBy w' none:=by
 obtain⟨a,I,rfl,O,_,W⟩:=L;by_cases X:0<h.length
 ·obtain⟨g,aa,rfl,ab,ac⟩:=W X;have J:=Sq h z;have K:=XD g aa I (h.map fun l=>ByteArray.mk l.toArray) ⟨z.toArray⟩ w ?_ ab (by rw[List.length_map];exact M) (by rw[List.length_map];exact O) (by rw[J];exact N);rw[J,List.length_map]at K
  ·refine K.mono ?_;rintro e w' ⟨rfl,F⟩;exact⟨rfl,⟨F.os,F.tape,F.output,F.size,fun k hk _=>F.block k hk⟩⟩
  ·intro j x hx;rw[List.getElem?_map]at hx;cases G:h[j]? with
   |none=>rw[G]at hx;cases hx
   |some s=>
    rw[G]at hx;injection hx with hx;subst hx;exact ac j _ (by rw[List.getElem?_map,G];rfl)
 ·obtain rfl:h=[]:=List.length_eq_zero_iff.1 (by omega);refine(VG a I ⟨z.toArray⟩ w).mono ?_;rintro e w' ⟨rfl,rfl⟩;exact⟨rfl,AB _ _⟩
end
section
open Go.RowKit Lx
structure QL (n:V):Prop where
 w: ∀s∈n.words,s.length≤140737488355328
 p: ∀p∈n.AS,p.length≤140737488355328∧(Ck p).length≤140737488355328
 r: ∀r∈n.AK,r.op.length≤140737488355328∧r.wd.length≤140737488355328
theorem Od: ∀p:List (List UInt8),Lib.join p [32,124,32]=Ck p
 |[]=>rfl
 |[s]=>Lib.join_one s _
 |s::t::r=>by
  have:=Od (t::r);unfold Lib.join at this⊢;rw[List.intercalate_cons_cons,this];rfl
theorem E4.form {n0:Nat} {w:World} {v:Value} {l:List (List (List UInt8))} (h:E4 n0 w v l): ∃a z,v=.slice a l.length z∧l.length≤9223372036854775807:=by
 obtain⟨I,h,_⟩:=h;obtain⟨a,z,F,_,G,_⟩:=h.now;exact⟨a,z,F,G⟩
theorem E4.get {n0:Nat} {w:World} {a:Option Addr} {m G:Nat} {z:List (List (List UInt8))} (I:E4 n0 w (.slice a m G) z) (i:Nat) (J:i<z.length): ∃g h u,a=some ⟨g,h,none⟩∧g<w.heap.size∧w.cell? ⟨g,h+i,none⟩=some u∧CQ n0 w u z[i]:=by
 obtain⟨aa,K,L⟩:=I;obtain⟨ab,ac,F,_,_,M⟩:=K.now;injection F with F _ _;obtain⟨g,h,N,O,W⟩:=M (by omega);obtain⟨u,X,hs⟩:=L i J;exact⟨g,h,u,F.trans N,O,W i u X,hs⟩
theorem CQ.one {n0:Nat} {w:World} {a:Option Addr} {F:Nat} {h:List (List UInt8)} (G:CQ n0 w (.slice a h.length F) h):Rows w (.slice a (min 1 h.length) F) (h.take 1).length ((h.take 1).map sv):=by
 obtain⟨X,aa,I,ab,ac,J⟩:=G.now;injection I with K _ L;subst K L;rw[List.length_take];refine⟨a,F,rfl,by omega,by omega,fun ad=>?_⟩;obtain⟨g,M,N,O,W⟩:=J (by omega);refine⟨g,M,N,O,fun j x z=>W j x ?_⟩;rw[List.map_take]at z;rw[List.getElem?_take]at z;split at z
 ·exact z
 ·cases z
theorem LY (h:List (List UInt8)):Lib.join (h.take 1) []=h.headD []:=by
 cases h with
 |nil=>rfl
 |cons s r=>exact Lib.join_one s _
def PK (rec:Nat→List (List UInt8)) (n:V) (i:Nat):List (List UInt8):=match n.kids[i]? with
 |some k=>if 0≤k then [[32]]++rec k.toNat else []
 |none=>[]
theorem QI (n0 I m:Nat) (l:List V) (rec:Nat→List (List UInt8)) (br:Iq n0 I l rec m) (b:List UInt8) (n:V) (aU aV aW aX aY:Value) (w:World) (hk:Il n m) (aZ:QL n) (a0:CA n0 w I l b) (aA:FP n0 w aU aV aW aX aY n) (bW:n.AS.length≤100000):
  Calls Tryz.prog 26 #[.pointer (some ⟨I,0,none⟩),.agg (AT n aU aV aW aX aY).toArray] w fun e w'=>e=.returned (.tuple #[])∧CA n0 w' I l (BN b (F9 rec n))∧PF n0 w w':=by
 obtain⟨am,an,ao,ab,ap,c3,aq,c4,a,ar,rfl,rfl,rfl,rfl,rfl⟩:=aA.C1;have bX:=hk.1;have X:=Y.new w 32 #[.int .i64 n.kind,.string ⟨n.name.toArray⟩,.bool n.A5,.slice am n.AY.length an,.slice ao n.words.length ab,.slice ap n.AK.length c3,.slice aq n.AS.length c4,.slice a n.kids.length ar];have au:=World.grownBy_alloc w (.cells #[.int .i64 n.kind,.string ⟨n.name.toArray⟩,.bool n.A5,.slice am n.AY.length an,.slice ao n.words.length ab,.slice ap n.AK.length c3,.slice aq n.AS.length c4,.slice a n.kids.length ar] 32) none;have K:=Z (FP.pf aA (PF.AL (n0:=n0) au));have a1:=Z (a0.grown au);have a2:=Z (PF.AL (n0:=n0) au);obtain⟨z,L⟩: ∃z,w.alloc (.cells #[.int .i64 n.kind,.string ⟨n.name.toArray⟩,.bool n.A5,.slice am n.AY.length an,.slice ao n.words.length ab,.slice ap n.AK.length c3,.slice aq n.AS.length c4,.slice a n.kids.length ar] 32)=z:=⟨_,rfl⟩;rw[L]at X K a1 a2;have bs:=Z L;obtain⟨B,aB⟩: ∃B,w.heap.size=B:=⟨_,rfl⟩;rw[aB]at X;have bt:=Z aB;have aw:=Z X;have bu:=Y.cell X 4;have bY:=Y.lt X;have a3:=Z (fun i b z (L:CA n0 z I l b) (bv:FP n0 z (.slice am n.AY.length an) (.slice ao n.words.length ab) (.slice ap n.AK.length c3) (.slice aq n.AS.length c4) (.slice a n.kids.length ar) n) (a4:i≤100000)=>JB n0 I m l rec br b n _ _ _ _ _ i z hk L bv a4);unfold AT sv at a3;unfold AT;have M:=Z (fun b a5 z (L:CA n0 z I l b) (bw:a5.length≤1000)=>IJ n0 I l b a5 z L bw);have ac:=NA (n.words.take 1) [] _ z (CQ.one K.out.words) (by rw[List.length_take];omega) (by
  rw[LY];cases bx:n.words with
  |nil=>exact DM _
  |cons s r=>exact aZ.w s (by rw[bx];simp))
 rw[LY]at ac;obtain⟨ad,aC⟩: ∃ad,n.words.headD []=ad:=⟨_,rfl⟩;have a6:F9 rec n=[[99,97,115,101,32],ad,[32,105,110]]++FM rec n n.AS.length++[[32,101,115,97,99]]:=(by unfold F9;rw[aC]);rw[a6,A6,A6];rw[aC]at ac;obtain⟨aD,a7⟩: ∃aD,n.words.length=aD:=⟨_,rfl⟩;obtain⟨ae,a8⟩: ∃q,min 1 aD=q:=⟨_,rfl⟩;have bZ:(n.words.length:Int)≤9223372036854775807:=by
  obtain⟨_,_,_,_,b0,_⟩:=K.out.words.now;omega
 have bz:min (1:Int) (n.words.length:Int)=(ae:Int):=(by omega);have b1:(0:Int)≤ae∧(ae:Int)≤(n.words.length:Int):=(by omega);have b2:(ae:Int)≤(ab:Int):=by
  obtain⟨_,_,a9,b3,_,_⟩:=K.out.words.now;injection a9 with _ _ a9;omega
 rw[a7,a8]at ac;obtain⟨aa,aE⟩: ∃aa,BN b [[99,97,115,101,32],ad,[32,105,110]]=aa:=⟨_,rfl⟩;rw[aE];have bA:=Z aE;have N:=Z ac;unfold sv at N;clear L aB X a0 aA au a6 aC ac a7 a8 aE;unfold sv;go_enter Tryz.func26,Tryz.ntmps26;go_upto_region 1 with(first|(refine BI _ z B (by exact rfl) bs.out bt.out ?_));go_wp2_with (first|(refine Np ae _ _ (by rfl) (by rfl) bz.symm ?_));refine N.out.mono ?_;rintro e b4 ⟨rfl,aF⟩;have af:=Z (a1.out.grown aF);have ag:=Z (PF.AL (n0:=n0) aF);clear aF N bu;go_wp2_with fail;refine(M.out b [[99,97,115,101,32],ad,[32,105,110]] _ af.out (by simp)).mono ?_;rintro e b5 ⟨rfl,aG,a'⟩;rw[bA.out]at aG;have ba:=Z aG;have aH:=ag.out.trans a';have bb:=Z aH;have aI:=aH.BD aw.out (by decide) (by decide);have bB:=Y.cell aI 6;have bC:=Y.lt aI;clear aG a' aH aI af ag;go_wp2_with fail;go_loopw [20] (fun v wr=> ∃i:Nat,v=.int .i64 i∧i≤n.AS.length∧CA n0 wr I l (BN aa (FM rec n i))∧PF n0 z wr) (fun v _=>n.AS.length-(intOf v).toNat);case atStart=>exact⟨0,rfl,DM _,ba.out,bb.out⟩
 case round=>
  obtain⟨i,rfl,a4,aJ,ah⟩:=hrel;have bc:=Z aJ;have bd:=Z ah;clear bB bC ba bb;by_cases aK:i<n.AS.length
  ·have bD:decide ((i:Int)<(n.AS.length:Int))=true:=At (by omega);have b6:(0:Int)≤i∧(i:Int)<(n.AS.length:Int):=(by omega);obtain⟨b7,b8,u,bE,bF,be,aL⟩:=(E4.pf K.out.AS ah).get i aK;obtain⟨b9,b',rfl,bG,bH⟩:=aL.at_;have aM:=aZ.p n.AS[i] (List.getElem_mem aK);have ai:=NA n.AS[i] [32,124,32] _ wr aL.now aM.1 (by rw[Od];exact aM.2);rw[Od]at ai;have aN:BN aa (FM rec n (i+1))=BN (BN (BN (BN aa (FM rec n i)) [[32,40],Ck n.AS[i],[41]]) (PK rec n i)) [[59,59]]:=by
    have bI:n.AS.getD i []=n.AS[i]:=(by rw[List.getD_eq_getElem?_getD,List.getElem?_eq_getElem aK];rfl);show BN aa (FM rec n i++[[32,40],Ck (n.AS.getD i []),[41]]++PK rec n i++[[59,59]])=_;rw[A6,A6,A6,bI]
   obtain⟨aO,bf⟩: ∃aO,Ck n.AS[i]=aO:=⟨_,rfl⟩;obtain⟨bg,bh⟩: ∃bg,n.AS[i].length=bg:=⟨_,rfl⟩;rw[bf]at ai aN;rw[bh]at ai be;have N:=Z ai;unfold sv at N;have bi:=Z aN;have bj:=ah.BD aw.out (by decide) (by decide);have ca:=Z bj;subst bE;clear aJ ah aL aM ai aN bf bh bj bG bH;go_wp2_with fail;refine N.out.mono ?_;rintro e cb ⟨rfl,aP⟩;have af:=Z (bc.out.grown aP);have ag:=Z (bd.out.trans (PF.AL (n0:=n0) aP));clear aP N be bF;go_wp2_with fail;refine(M.out _ [[32,40],aO,[41]] _ af.out (by simp)).mono ?_;rintro e cc ⟨rfl,bk,bl⟩;have aQ:=Z bk;have aj:=ag.out.trans bl;have aR:=Z aj;have ak:=aj.BD aw.out (by decide) (by decide);have bJ:=Y.cell ak 7;have bK:=Y.lt ak;clear bk bl af ag;by_cases ax:i<n.kids.length
   ·have bL:decide ((i:Int)<(n.kids.length:Int))=true:=At (by omega);have cd:(0:Int)≤i∧(i:Int)<(n.kids.length:Int):=(by omega);obtain⟨ce,cf,bM,bN,bm⟩:=(E0.pf K.out.kids aj).get i ax;have bO:=hk.2 n.kids[i] (List.getElem_mem ax);have bn:PK rec n i=if 0≤n.kids[i]then [[32]]++rec n.kids[i].toNat else []:=(by unfold PK;rw[List.getElem?_eq_getElem ax]);have aS:Cj rec n i=if 0≤n.kids[i]then rec n.kids[i].toNat else []:=(by unfold Cj;rw[List.getElem?_eq_getElem ax]);have J:=bi.out;rw[bn]at J;obtain⟨k,bo⟩: ∃k,n.kids[i]=k:=⟨_,rfl⟩;rw[bo]at bm bO aS J;have ay:=Z J;have bP:=Z aS;subst bM;clear aj bn J aS bo;by_cases az:0≤k
    ·have bQ:decide ((0:Int)≤k)=true:=At az;clear ak;go_wp2_with fail;refine(M.out _ [[32]] _ aQ.out (by simp)).mono ?_;rintro e cg ⟨rfl,bp,al⟩;have bR:=Z bp;have h:=aR.out.trans al;have bS:=Z h;have G:=h.BD aw.out (by decide) (by decide);clear bp al bJ bK bm bN;have ch:=Y.cell G 0;have ci:=Y.cell G 1;have cj:=Y.cell G 2;have ck:=Y.cell G 3;have cl:=Y.cell G 4;have cm:=Y.cell G 5;have cn:=Y.cell G 6;have co:=Y.cell G 7;have cp:=Y.lt G;clear G;have bT:=Z (K.out.pf h);clear h;go_wp2_with fail;refine(a3.out i _ _ bR.out bT.out (by omega)).mono ?_;rintro e cq ⟨rfl,bq,al⟩;have bU:=Z bq;have bV:=Z (bS.out.trans al);clear bq al;go_wp2_with fail;refine(M.out _ [[59,59]] _ bU.out (by simp)).mono ?_;rintro e aT ⟨rfl,F,h⟩;have O:=Z F;have W:=Z (bV.out.trans h);clear F h;go_wp2_with fail;go_roundw;case rel=>exact⟨i+1,by go_num,by omega,by rw[ay.out,Ah az,A6];have:=O.out;rw[bP.out,Ah az]at this;exact this,W.out⟩
     case measure=>simp[intOf];omega
    ·have bQ:decide ((0:Int)≤k)=false:=Aq az;clear ak;go_wp2_with fail;refine(M.out _ [[59,59]] _ aQ.out (by simp)).mono ?_;rintro e aT ⟨rfl,F,h⟩;have O:=Z F;have W:=Z (aR.out.trans h);clear F h;go_wp2_with fail;go_roundw;case rel=>exact⟨i+1,by go_num,by omega,by rw[ay.out,U (by omega)];exact O.out,W.out⟩
     case measure=>simp[intOf];omega
   ·have bL:decide ((i:Int)<(n.kids.length:Int))=false:=Aq (by omega);have J:=bi.out;rw[show PK rec n i=[] by unfold PK;rw[List.getElem?_eq_none (by omega)]]at J;have ay:=Z J;clear J aj ak;go_wp2_with fail;refine(M.out _ [[59,59]] _ aQ.out (by simp)).mono ?_;rintro e aT ⟨rfl,F,h⟩;have O:=Z F;have W:=Z (aR.out.trans h);clear F h;go_wp2_with fail;go_roundw;case rel=>exact⟨i+1,by go_num,by omega,by rw[ay.out];exact O.out,W.out⟩
    case measure=>simp[intOf];omega
  ·obtain rfl:i=n.AS.length:=by omega
   have bD:decide ((n.AS.length:Int)<(n.AS.length:Int))=false:=Aq (by omega);clear aJ ah;go_wp2_with fail;refine(M.out _ [[32,101,115,97,99]] _ bc.out (by simp)).mono ?_;rintro e aT ⟨rfl,F,h⟩;have O:=Z F;have W:=Z (bd.out.trans h);clear F h;go_wp2_with fail;go_end0
   exact⟨rfl,O.out,a2.out.trans W.out⟩
end
end Go.Proofs.YtdhfhphbkfgamaaGreat
