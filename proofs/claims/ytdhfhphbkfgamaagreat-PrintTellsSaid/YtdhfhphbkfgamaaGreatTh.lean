/- A part. -/
import Derived.Shelf.Strings.OnBuilder
import Derived.Test.YtdhfhphbkfgamaaGreatTe
set_option maxRecDepth 100000
set_option linter.all false
set_option maxHeartbeats 0
namespace Go.Proofs.YtdhfhphbkfgamaaGreat
open Go.RowKit Lx Proofs.Tryz
theorem Rx(n0 ak m:Nat)(l:List V)(bt:Cx l)(bu:m<=l.length)(b:List UInt8)(n:V)(aW aX aY aZ a0:Value)(w:World)(hk:JE n m)(aq:CC n0 w ak l b)(ar:Fk n0 w aW aX aY aZ a0 n):
  Calls prog 25 #[.pointer (some ⟨ak,0,none⟩),.agg (AU n aW aX aY aZ a0).toArray] w fun e w'=>e=.returned (.bool (Dm l n))/\CC n0 w' ak l b/\PF n0 w w':=by
 obtain⟨au,aw,ax,ay,az,c3,aA,c4,a,al,rfl,rfl,rfl,rfl,rfl⟩:=ar.C5;have bv:=hk.1;have ai:=Y.new w 32 #[.int .i64 n.kind,.string ⟨n.name.toArray⟩,.bool n.A7,.slice au n.AZ.length aw,.slice ax n.words.length ay,.slice az n.AK.length c3,.slice aA n.AT.length c4,.slice a n.kids.length al];have aj:=Ev w (.cells #[.int .i64 n.kind,.string ⟨n.name.toArray⟩,.bool n.A7,.slice au n.AZ.length aw,.slice ax n.words.length ay,.slice az n.AK.length c3,.slice aA n.AT.length c4,.slice a n.kids.length al] 32) none;have a1:=Z (Fk.pf ar (PF.AL (n0:=n0) aj));have am:=Z (aq.grown aj);have an:=Z (PF.AL (n0:=n0) aj);obtain⟨ah,aB⟩:=U (w.alloc (.cells #[.int .i64 n.kind,.string ⟨n.name.toArray⟩,.bool n.A7,.slice au n.AZ.length aw,.slice ax n.words.length ay,.slice az n.AK.length c3,.slice aA n.AT.length c4,.slice a n.kids.length al] 32));rw[aB]at ai a1 am an;have ao:=Z aB;obtain⟨B,aC⟩:=U w.heap.size;rw[aC]at ai;have aD:=Z aC;have bw:=Z ai;have a2:=Y.cell ai 7;have be:=Y.lt ai;unfold AU;have aE:=Z aq;have bf:=Z aj;clear aB aC ai aq ar aj;unfold sv;by_cases bx:n.kids.length<3
 ·have G:decide ((n.kids.length:Int)<3)=true:=Au (by omega);have K:Dm l n=false:=(by unfold Dm;rw[List.getElem?_eq_none (by omega)]);rw[K];clear K;go_enter func25,ntmps25;go_upto_region 1 with(first|(refine BK _ ah B (by exact rfl) ao.out aD.out ?_));go_wp2_with fail;go_ret;exact⟨rfl,am.out,an.out⟩
 ·have G:decide ((n.kids.length:Int)<3)=false:=As (by omega);have aF:2<n.kids.length:=(by omega);have bz:(2:Int)<(n.kids.length:Int):=(by omega);obtain⟨a3,a4,bg,bh,aG⟩:=(E9.get a1.out.kids 2 aF);have bi:=hk.2 n.kids[2] (Cp aF);have K:Dm l n=(decide ((0:Int)<=n.kids[2])&&(Jv l n.kids[2]).kind==10&&(Jv l n.kids[2]).AK.isEmpty):=(by unfold Dm;rw[CZ aF]);obtain⟨k,a5⟩:=U (n.kids[2]);rw[a5]at aG bi K;subst bg;clear a5;by_cases bj:k<0
  ·have I:decide (k<0)=true:=Au bj;have a6:Dm l n=false:=(by rw[K,As (by omega)];rfl);rw[a6];clear K a6;go_enter func25,ntmps25;go_upto_region 1 with(first|(refine BK _ ah B (by exact rfl) ao.out aD.out ?_));go_wp2_with fail;go_ret;exact⟨rfl,am.out,an.out⟩
  ·obtain⟨j,rfl⟩:∃j:Nat,k=j:=⟨k.toNat,by omega⟩;have I:decide ((j:Int)<0)=false:=As (by omega);have a7:j<l.length:=(by omega);have bA:(0:Int)<=j/\(j:Int)<(l.length:Int):=(by omega);rw[Au (by omega),Bool.true_and,Kp rfl a7]at K;obtain⟨v,p,bB,aH,bk,a8,bC⟩:=am.out;have a9:=aH.cells.1;have bl:=Y.lt aH.BF;obtain⟨L,M,bm,bD,bE,bF,bG,bH,rfl,bn,bI,ag,a',aI,ap,aJ,aK,aL,aM,aN,aO⟩:=a8.at_ j a7;obtain⟨aP,d1,aQ,d2,aR,d3,aS,d4,aT,d5,rfl,rfl,rfl,rfl,rfl⟩:=a'.C5;obtain⟨h,ba⟩:=U (l[j]);rw[ba]at aI ap aJ aK aL aM aN aO K;rw[K];unfold sv at ap;clear K ba a' a8 aH bk bn;have bb:h.AK.isEmpty=((h.AK.length:Int)==0):=by
    cases h.AK with
    |nil=>rfl
    |cons x r=>
     symm
     show(((x::r).length:Int)==0)=false;rw[A4,BR];omega
   rw[bb];clear bb;obtain⟨bo,bp⟩:=U ((h.kind==10));obtain⟨bq,br⟩:=U (((h.AK.length:Int)==0));rw[bp,br];have bc:w.grownBy (ah.drew.alloc (.cells #[.int .i64 h.kind,.string ⟨h.name.toArray⟩,.bool h.A7,.slice aP h.AZ.length d1,.slice aQ h.words.length d2,.slice aR h.AK.length d3,.slice aS h.AT.length d4,.slice aT h.kids.length d5] 32)) none:=by
    have:=bf.out;rw[ao.out]at this;exact AF (Ah this) _
   have aU:=Z bc;have aV:=Z ((an.out.drew).alloc (.cells #[.int .i64 h.kind,.string ⟨h.name.toArray⟩,.bool h.A7,.slice aP h.AZ.length d1,.slice aQ h.words.length d2,.slice aR h.AK.length d3,.slice aS h.AT.length d4,.slice aT h.kids.length d5] 32));clear bc;go_enter func25,ntmps25;go_upto_region 1 with(first|(refine BK _ ah B (by exact rfl) ao.out aD.out ?_));go_upto_region 3 with(fail);refine C8 [0,1,2,3,4,5,6,7,8,9] [10,11] (by kernel_rfl) (by kernel_rfl) (fun J=>J.cell? ⟨ak,0,none⟩=some (.slice (some ⟨L,M,none⟩) l.length bm)/\J.cell? ⟨B,7,none⟩=some (.slice (some ⟨a3,a4,none⟩) n.kids.length al)/\J.cell? ⟨a3,a4+2,none⟩=some (.int .i64 j)/\J.cell? ⟨L,M+j*8,none⟩=some (.int .i64 h.kind)/\J.cell? ⟨L,M+j*8+1,none⟩=some (.string ⟨h.name.toArray⟩)/\J.cell? ⟨L,M+j*8+2,none⟩=some (.bool h.A7)/\J.cell? ⟨L,M+j*8+3,none⟩=some (.slice aP h.AZ.length d1)/\J.cell? ⟨L,M+j*8+4,none⟩=some (.slice aQ h.words.length d2)/\J.cell? ⟨L,M+j*8+5,none⟩=some (.slice aR h.AK.length d3)/\J.cell? ⟨L,M+j*8+6,none⟩=some (.slice aS h.AT.length d4)/\J.cell? ⟨L,M+j*8+7,none⟩=some (.slice aT h.kids.length d5)) ⟨a9,a2,aG,aI,ap,aJ,aK,aL,aM,aN,aO⟩ ?_;simp only[pick,List.getElem?_cons_zero,List.getElem?_cons_succ];refine AR ?_ (by rfl) ?_ ?_;rotate_left
   ·(intro N z;obtain⟨O,W,X,G,I,aa,ab,ac,ad,ae,af⟩:=z;go_simp;try with_reducible rfl)
   simp only[Act.put,BH,BI,BJ];refine AR ?_ (by rfl) ?_ ?_;rotate_left
   ·(intro N z;obtain⟨O,W,X,G,I,aa,ab,ac,ad,ae,af⟩:=z;go_simp;try with_reducible rfl)
   simp only[Act.put,BH,BI,BJ];refine AR ?_ (by rfl) ?_ ?_;rotate_left
   ·(intro N z;obtain⟨O,W,X,G,I,aa,ab,ac,ad,ae,af⟩:=z;go_simp;try with_reducible rfl)
   simp only[Act.put,BH,BI,BJ];refine AR ?_ (by rfl) ?_ ?_;rotate_left
   ·(intro N z;obtain⟨O,W,X,G,I,aa,ab,ac,ad,ae,af⟩:=z;go_simp;try with_reducible rfl)
   simp only[Act.put,BH,BI,BJ];refine AR ?_ (by rfl) ?_ ?_;rotate_left
   ·(intro N z;obtain⟨O,W,X,G,I,aa,ab,ac,ad,ae,af⟩:=z;go_simp;try with_reducible rfl)
   simp only[Act.put,BH,BI,BJ];refine AR ?_ (by rfl) ?_ ?_;rotate_left
   ·(intro N z;obtain⟨O,W,X,G,I,aa,ab,ac,ad,ae,af⟩:=z;go_simp;try with_reducible rfl)
   simp only[Act.put,BH,BI,BJ];refine AR ?_ (by rfl) ?_ ?_;rotate_left
   ·(intro N z;obtain⟨O,W,X,G,I,aa,ab,ac,ad,ae,af⟩:=z;go_simp;try with_reducible rfl)
   simp only[Act.put,BH,BI,BJ];refine AR ?_ (by rfl) ?_ ?_;rotate_left
   ·(intro N z;obtain⟨O,W,X,G,I,aa,ab,ac,ad,ae,af⟩:=z;go_simp;try with_reducible rfl)
   simp only[Act.put,BH,BI,BJ];refine AR ?_ (by rfl) ?_ ?_;rotate_left
   ·(intro N z;obtain⟨O,W,X,G,I,aa,ab,ac,ad,ae,af⟩:=z;go_simp;try with_reducible rfl)
   simp only[Act.put,BH,BI,BJ];refine AR ?_ (by rfl) ?_ ?_;rotate_left
   ·(intro N z;obtain⟨O,W,X,G,I,aa,ab,ac,ad,ae,af⟩:=z;go_simp;try with_reducible rfl)
   simp only[Act.put,BH,BI,BJ];refine CV ?_;refine Ag fun bs bd=>?_
   refine Aa (.pointer (some ⟨ah.heap.size,0,none⟩)) (ah.drew.alloc (.cells #[.int .i64 0,.string ⟨#[]⟩,.bool false,.slice none 0 0,.slice none 0 0,.slice none 0 0,.slice none 0 0,.slice none 0 0] 32)) (by rfl) (by go_simp) ?_;have F:=AF (Ah (AB ah none)) (.cells #[.int .i64 0,.string ⟨#[]⟩,.bool false,.slice none 0 0,.slice none 0 0,.slice none 0 0,.slice none 0 0,.slice none 0 0] 32);refine bd.out _ _ ⟨AH F bl a9,AH F be a2,AH F bh aG,AH F ag aI,AH F ag ap,AH F ag aJ,AH F ag aK,AH F ag aL,AH F ag aM,AH F ag aN,AH F ag aO⟩ ?_;simp only[Act.put,BH,BI,BJ];refine CR ?_;clear F bd bs;go_wp2_with fail;refine NoPanic.normal ?_;cases bo with
   |true=>cases bq with
    |true=>
     go_wp2_with fail;go_ret;exact⟨rfl,aE.out.grown aU.out,aV.out⟩
    |false=>
     go_wp2_with fail;go_ret;exact⟨rfl,aE.out.grown aU.out,aV.out⟩
   |false=>
    go_wp2_with fail;go_ret;exact⟨rfl,aE.out.grown aU.out,aV.out⟩
section
open Go.RowKit Lx Go.Shelf Proofs.Tryz
def Xp:Ren:=⟨fun|156=>55|165=>76|166=>53|169=>11|240=>75|241=>93|276=>92|277=>102|n=>n,fun|0=>0|3=>3|4=>4|9=>9|20=>20|31=>27|37=>37|70=>36|72=>39|75=>90|76=>91|127=>59|164=>120|5=>5|80=>43|n=>n,fun n=>n⟩
theorem PG:Lays.n156 prog Xp:= {
 mixed:=by kernel_rfl,
 f156:=func55.trans (congrArg some (by kernel_rfl)),
 f165:=func76.trans (congrArg some (by kernel_rfl)),
 f166:=func53.trans (congrArg some (by kernel_rfl)),
 f169:=func11.trans (congrArg some (by kernel_rfl)),
 f240:=func75.trans (congrArg some (by kernel_rfl)),
 f241:=func93.trans (congrArg some (by kernel_rfl)),
 f276:=func92.trans (congrArg some (by kernel_rfl)),
 f277:=func102.trans (congrArg some (by kernel_rfl)),
 t0:=underlying0,
 a0:=Tryz.isAgg0,
 z0:=Tryz.sizeOf0,
 v0:=Tryz.zeroValue0,
 t3:=underlying3,
 a3:=Tryz.isAgg3,
 z3:=Tryz.sizeOf3,
 v3:=Tryz.zeroValue3,
 t4:=underlying4,
 a4:=Tryz.isAgg4,
 z4:=Tryz.sizeOf4,
 v4:=Tryz.zeroValue4,
 t9:=underlying9,
 a9:=Tryz.isAgg9,
 z9:=Tryz.sizeOf9,
 v9:=Tryz.zeroValue9,
 t20:=underlying20,
 a20:=Tryz.isAgg20,
 z20:=Tryz.sizeOf20,
 v20:=Tryz.zeroValue20,
 t31:=underlying27,
 a31:=Tryz.isAgg27,
 z31:=Tryz.sizeOf27,
 v31:=Tryz.zeroValue27,
 t37:=underlying37,
 a37:=Tryz.isAgg37,
 z37:=Tryz.sizeOf37,
 v37:=Tryz.zeroValue37,
 t70:=underlying36,
 a70:=Tryz.isAgg36,
 z70:=Tryz.sizeOf36,
 v70:=Tryz.zeroValue36,
 t72:=underlying39,
 a72:=Tryz.isAgg39,
 z72:=Tryz.sizeOf39,
 v72:=Tryz.zeroValue39,
 t75:=underlying90,
 a75:=Tryz.isAgg90,
 z75:=Tryz.sizeOf90,
 v75:=Tryz.zeroValue90,
 t76:=underlying91,
 a76:=Tryz.isAgg91,
 z76:=Tryz.sizeOf91,
 v76:=Tryz.zeroValue91,
 t127:=underlying59,
 a127:=Tryz.isAgg59,
 z127:=Tryz.sizeOf59,
 v127:=Tryz.zeroValue59,
 t164:=underlying120,
 a164:=Tryz.isAgg120,
 z164:=Tryz.sizeOf120,
 v164:=Tryz.zeroValue120 }
theorem R7:Builder.Extra prog Xp:= {
 sizeBuilder:=by kernel_rfl,
 liesBuilder:=by kernel_rfl,
 t5:=underlying5,
 a5:=Tryz.isAgg5,
 z5:=Tryz.sizeOf5,
 v5:=Tryz.zeroValue5,
 infoByte:=by kernel_rfl,
 cellsByte:=by kernel_rfl,
 sizeByte:=by kernel_rfl,
 neB5:=by decide }
theorem Tm(h:List (List UInt8))(z:List UInt8):Lib.join ((h.map fun l=>(ByteArray.mk l.toArray)).map (·.data.toList)) (ByteArray.mk z.toArray).data.toList=Lib.join h z:=by
 congr 1
 ·induction h with
  |nil=>rfl
  |cons x r ih=>simp[ih]
theorem Xs(h o c:Nat)(xs:List ByteArray)(z:ByteArray)(w:World)
  (F:∀(j:Nat) x,xs[j]? =some x->w.cell? ⟨h,o+j,none⟩=some (.string x)) (G:h<w.heap.size) (I:xs.length<=140737488355328) (J:xs.length<=c)
  (K:(Lib.join (xs.map (·.data.toList)) z.data.toList).length<=140737488355328):
  Calls prog 55 #[.slice (some ⟨h,o,none⟩) xs.length c,.string z] w fun e w'=>e=.returned (.string ⟨(Lib.join (xs.map (·.data.toList)) z.data.toList).toArray⟩)/\Below w.heap.size w w':=
 Any.strings_Join PG R7 h o c xs z w F G I J K
theorem V7(a:Option Addr)(c:Nat)(h:ByteArray)(w:World):Calls prog 55 #[.slice a 0 c,.string h] w fun e w'=>e=.returned (.string ⟨#[]⟩)/\w'=w:=
 Any.strings_Join_none PG R7 a c h w
theorem NO(h:List (List UInt8))(z:List UInt8)(v:Value)(w:World)(L:Rows w v h.length (h.map sv))(M:h.length<=140737488355328)(N:(Lib.join h z).length<=140737488355328):
  Calls prog 55 #[v,sv z] w fun e w'=>e=.returned (sv (Lib.join h z))/\w.grownBy w' none:=by
 obtain⟨a,I,rfl,O,_,W⟩:=L;by_cases X:0<h.length
 ·obtain⟨g,aa,rfl,ab,ac⟩:=W X;have J:=Tm h z;have K:=Xs g aa I (h.map fun l=>ByteArray.mk l.toArray) ⟨z.toArray⟩ w ?_ ab (by rw[List.length_map];exact M) (by rw[List.length_map];exact O) (by rw[J];exact N);rw[J,List.length_map]at K
  ·refine K.mono ?_;rintro e w' ⟨rfl,F⟩;exact⟨rfl,⟨F.os,F.tape,F.output,F.size,fun k hk _=>F.block k hk⟩⟩
  ·intro j x hx;rw[II]at hx;cases G:h[j]? with
   |none=>rw[G]at hx;cases hx
   |some s=>
    rw[G]at hx;injection hx with hx;subst hx;exact ac j _ (by rw[II,G];rfl)
 ·obtain rfl:h=[]:=List.length_eq_zero_iff.1 (by omega);refine(V7 a I ⟨z.toArray⟩ w).mono ?_;rintro e w' ⟨rfl,rfl⟩;exact⟨rfl,AB _ _⟩
end
structure Qn(n:V):Prop where
 w:∀s∈n.words,s.length<=140737488355328
 p:∀p∈n.AT,p.length<=140737488355328/\(Cs p).length<=140737488355328
 r:∀r∈n.AK,r.op.length<=140737488355328/\r.wd.length<=140737488355328
theorem Oc:∀p:List (List UInt8),Lib.join p [32,124,32]=Cs p
 |[]=>rfl
 |[s]=>Lib.join_one s _
 |s::t::r=>by
  have:=Oc (t::r);unfold Lib.join at this⊢;rw[List.intercalate_cons_cons,this];rfl
theorem FP.form{n0:Nat}{w:World}{v:Value}{l:List (List (List UInt8))}(h:FP n0 w v l):∃a z,v=.slice a l.length z/\l.length<=9223372036854775807:=by
 obtain⟨I,h,_⟩:=h;obtain⟨a,z,F,_,G,_⟩:=h.now;exact⟨a,z,F,G⟩
theorem FP.get{n0:Nat}{w:World}{a:Option Addr}{m G:Nat}{z:List (List (List UInt8))}(I:FP n0 w (.slice a m G) z)(i:Nat)(J:i<z.length):∃g h u,a=some ⟨g,h,none⟩/\g<w.heap.size/\w.cell? ⟨g,h+i,none⟩=some u/\CW n0 w u z[i]:=by
 obtain⟨aa,K,L⟩:=I;obtain⟨ab,ac,F,_,_,M⟩:=K.now;injection F with F _ _;obtain⟨g,h,N,O,W⟩:=M (by omega);obtain⟨u,X,hs⟩:=L i J;exact⟨g,h,u,F.trans N,O,W i u X,hs⟩
theorem CW.one{n0:Nat}{w:World}{a:Option Addr}{F:Nat}{h:List (List UInt8)}(G:CW n0 w (.slice a h.length F) h):Rows w (.slice a (min 1 h.length) F) (h.take 1).length ((h.take 1).map sv):=by
 obtain⟨X,aa,I,ab,ac,J⟩:=G.now;injection I with K _ L;subst K L;rw[Fw];refine⟨a,F,rfl,by omega,by omega,fun ad=>?_⟩;obtain⟨g,M,N,O,W⟩:=J (by omega);refine⟨g,M,N,O,fun j x z=>W j x ?_⟩;rw[List.map_take]at z;rw[List.getElem?_take]at z;split at z
 ·exact z
 ·cases z
theorem Ly(h:List (List UInt8)):Lib.join (h.take 1) []=h.headD []:=by
 cases h with
 |nil=>rfl
 |cons s r=>exact Lib.join_one s _
def Pu(rec:Nat->List (List UInt8))(n:V)(i:Nat):List (List UInt8):=match n.kids[i]? with
 |some k=>if 0<=k then [[32]]++rec k.toNat else []
 |none=>[]
theorem QW(n0 I m:Nat)(l:List V)(rec:Nat->List (List UInt8))(bo:JJ n0 I l rec m)(b:List UInt8)(n:V)(aS aT aU aV aW:Value)(w:World)(hk:JE n m)(aX:Qn n)(aY:CC n0 w I l b)(az:Fk n0 w aS aT aU aV aW n)(bV:n.AT.length<=100000):
  Calls prog 26 #[.pointer (some ⟨I,0,none⟩),.agg (AU n aS aT aU aV aW).toArray] w fun e w'=>e=.returned (.tuple #[])/\CC n0 w' I l (BQ b (Gc rec n))/\PF n0 w w':=by
 obtain⟨ak,al,am,aa,an,c3,ao,c4,a,ap,rfl,rfl,rfl,rfl,rfl⟩:=az.C5;have bW:=hk.1;have X:=Y.new w 32 #[.int .i64 n.kind,.string ⟨n.name.toArray⟩,.bool n.A7,.slice ak n.AZ.length al,.slice am n.words.length aa,.slice an n.AK.length c3,.slice ao n.AT.length c4,.slice a n.kids.length ap];have aq:=Ev w (.cells #[.int .i64 n.kind,.string ⟨n.name.toArray⟩,.bool n.A7,.slice ak n.AZ.length al,.slice am n.words.length aa,.slice an n.AK.length c3,.slice ao n.AT.length c4,.slice a n.kids.length ap] 32) none;have K:=Z (Fk.pf az (PF.AL (n0:=n0) aq));have aZ:=Z (aY.grown aq);have a0:=Z (PF.AL (n0:=n0) aq);obtain⟨F,L⟩:=U (w.alloc (.cells #[.int .i64 n.kind,.string ⟨n.name.toArray⟩,.bool n.A7,.slice ak n.AZ.length al,.slice am n.words.length aa,.slice an n.AK.length c3,.slice ao n.AT.length c4,.slice a n.kids.length ap] 32));rw[L]at X K aZ a0;have bp:=Z L;obtain⟨B,aA⟩:=U w.heap.size;rw[aA]at X;have bq:=Z aA;have ar:=Z X;have br:=Y.cell X 4;have bX:=Y.lt X;have a1:=Z (fun i b F (L:CC n0 F I l b) (bs:Fk n0 F (.slice ak n.AZ.length al) (.slice am n.words.length aa) (.slice an n.AK.length c3) (.slice ao n.AT.length c4) (.slice a n.kids.length ap) n) (a2:i<=100000)=>JO n0 I m l rec bo b n _ _ _ _ _ i F hk L bs a2);unfold AU sv at a1;unfold AU;have M:=Z (fun b a3 F (L:CC n0 F I l b) (bt:a3.length<=1000)=>Im n0 I l b a3 F L bt);have ab:=NO (n.words.take 1) [] _ F (CW.one K.out.words) (by rw[Fw];omega) (by
  rw[Ly];cases bu:n.words with
  |nil=>exact DD _
  |cons s r=>exact aX.w s (by rw[bu];simp))
 rw[Ly]at ab;obtain⟨aB,aC⟩:=U (n.words.headD []);have a4:Gc rec n=[[99,97,115,101,32],aB,[32,105,110]]++Fm rec n n.AT.length++[[32,101,115,97,99]]:=(by unfold Gc;rw[aC]);rw[a4,A8,A8];rw[aC]at ab;obtain⟨bv,a5⟩:=U n.words.length;obtain⟨ac,a6⟩:=U (min 1 bv);have bY:(n.words.length:Int)<=9223372036854775807:=by
  obtain⟨_,_,_,_,bZ,_⟩:=K.out.words.now;omega
 have bw:min (1:Int) (n.words.length:Int)=(ac:Int):=(by omega);have b0:(0:Int)<=ac/\(ac:Int)<=(n.words.length:Int):=(by omega);have b1:(ac:Int)<=(aa:Int):=by
  obtain⟨_,_,a7,b2,_,_⟩:=K.out.words.now;injection a7 with _ _ a7;omega
 rw[a5,a6]at ab;obtain⟨au,aD⟩:=U (BQ b [[99,97,115,101,32],aB,[32,105,110]]);rw[aD];have bx:=Z aD;have N:=Z ab;unfold sv at N;clear L aA X aY az aq a4 aC ab a5 a6 aD;unfold sv;go_enter func26,ntmps26;go_upto_region 1 with(first|(refine BK _ F B (by exact rfl) bp.out bq.out ?_));go_wp2_with (first|(refine Ov ac _ _ (by rfl) (by rfl) bw.symm ?_));refine N.out.mono ?_;rintro e b3 ⟨rfl,aE⟩;have ad:=Z (aZ.out.grown aE);have ae:=Z (PF.AL (n0:=n0) aE);clear aE N br;go_wp2_with fail;refine(M.out b [[99,97,115,101,32],aB,[32,105,110]] _ ad.out (by simp)).mono ?_;rintro e b4 ⟨rfl,aF,a8⟩;rw[bx.out]at aF;have a9:=Z aF;have aG:=ae.out.trans a8;have a':=Z aG;have aH:=aG.BF ar.out (by decide) (by decide);have bz:=Y.cell aH 6;have bA:=Y.lt aH;clear aF a8 aG aH ad ae;go_wp2_with fail;go_loopw [20] (fun v wr=> ∃i:Nat,v=.int .i64 i/\i<=n.AT.length/\CC n0 wr I l (BQ au (Fm rec n i))/\PF n0 F wr) (fun v _=>n.AT.length-(intOf v).toNat);case atStart=>exact⟨0,rfl,DD _,a9.out,a'.out⟩
 case round=>
  obtain⟨i,rfl,a2,aI,af⟩:=hrel;have ba:=Z aI;have bb:=Z af;clear bz bA a9 a';by_cases aJ:i<n.AT.length
  ·have bB:decide ((i:Int)<(n.AT.length:Int))=true:=Au (by omega);have b5:(0:Int)<=i/\(i:Int)<(n.AT.length:Int):=(by omega);obtain⟨b6,b7,u,bC,bD,bc,aK⟩:=(FP.pf K.out.AT af).get i aJ;obtain⟨b8,b9,rfl,bE,bF⟩:=aK.at_;have aL:=aX.p n.AT[i] (Cp aJ);have ag:=NO n.AT[i] [32,124,32] _ wr aK.now aL.1 (by rw[Oc];exact aL.2);rw[Oc]at ag;have aM:BQ au (Fm rec n (i+1))=BQ (BQ (BQ (BQ au (Fm rec n i)) [[32,40],Cs n.AT[i],[41]]) (Pu rec n i)) [[59,59]]:=by
    have bG:n.AT.getD i []=n.AT[i]:=(by rw[EK,CZ aJ];rfl);show BQ au (Fm rec n i++[[32,40],Cs (n.AT.getD i []),[41]]++Pu rec n i++[[59,59]])=_;rw[A8,A8,A8,bG]
   obtain⟨bH,bd⟩:=U (Cs n.AT[i]);obtain⟨b',be⟩:=U (n.AT[i].length);rw[bd]at ag aM;rw[be]at ag bc;have N:=Z ag;unfold sv at N;have bf:=Z aM;have bg:=af.BF ar.out (by decide) (by decide);have ca:=Z bg;subst bC;clear aI af aK aL ag aM bd be bg bE bF;go_wp2_with fail;refine N.out.mono ?_;rintro e cb ⟨rfl,aN⟩;have ad:=Z (ba.out.grown aN);have ae:=Z (bb.out.trans (PF.AL (n0:=n0) aN));clear aN N bc bD;go_wp2_with fail;refine(M.out _ [[32,40],bH,[41]] _ ad.out (by simp)).mono ?_;rintro e cc ⟨rfl,bh,bi⟩;have aO:=Z bh;have ah:=ae.out.trans bi;have aP:=Z ah;have ai:=ah.BF ar.out (by decide) (by decide);have bI:=Y.cell ai 7;have bJ:=Y.lt ai;clear bh bi ad ae;by_cases aw:i<n.kids.length
   ·have bK:decide ((i:Int)<(n.kids.length:Int))=true:=Au (by omega);have cd:(0:Int)<=i/\(i:Int)<(n.kids.length:Int):=(by omega);obtain⟨ce,cf,bL,bM,bj⟩:=(E9.pf K.out.kids ah).get i aw;have bN:=hk.2 n.kids[i] (Cp aw);have bk:Pu rec n i=if 0<=n.kids[i]then [[32]]++rec n.kids[i].toNat else []:=(by unfold Pu;rw[CZ aw]);have aQ:Cm rec n i=if 0<=n.kids[i]then rec n.kids[i].toNat else []:=(by unfold Cm;rw[CZ aw]);have J:=bf.out;rw[bk]at J;obtain⟨k,bl⟩:=U (n.kids[i]);rw[bl]at bj bN aQ J;have ax:=Z J;have bO:=Z aQ;subst bL;clear ah bk J aQ bl;by_cases ay:0<=k
    ·have bP:decide ((0:Int)<=k)=true:=Au ay;clear ai;go_wp2_with fail;refine(M.out _ [[32]] _ aO.out (by simp)).mono ?_;rintro e cg ⟨rfl,bm,aj⟩;have bQ:=Z bm;have h:=aP.out.trans aj;have bR:=Z h;have G:=h.BF ar.out (by decide) (by decide);clear bm aj bI bJ bj bM;have ch:=Y.cell G 0;have ci:=Y.cell G 1;have cj:=Y.cell G 2;have ck:=Y.cell G 3;have cl:=Y.cell G 4;have cm:=Y.cell G 5;have cn:=Y.cell G 6;have co:=Y.cell G 7;have cp:=Y.lt G;clear G;have bS:=Z (K.out.pf h);clear h;go_wp2_with fail;refine(a1.out i _ _ bQ.out bS.out (by omega)).mono ?_;rintro e cq ⟨rfl,bn,aj⟩;have bT:=Z bn;have bU:=Z (bR.out.trans aj);clear bn aj;go_wp2_with fail;refine(M.out _ [[59,59]] _ bT.out (by simp)).mono ?_;rintro e aR ⟨rfl,z,h⟩;have O:=Z z;have W:=Z (bU.out.trans h);clear z h;go_wp2_with fail;go_roundw;case rel=>exact⟨i+1,by go_num,by omega,by rw[ax.out,Ai ay,A8];have:=O.out;rw[bO.out,Ai ay]at this;exact this,W.out⟩
     case measure=>simp[intOf];omega
    ·have bP:decide ((0:Int)<=k)=false:=As ay;clear ai;go_wp2_with fail;refine(M.out _ [[59,59]] _ aO.out (by simp)).mono ?_;rintro e aR ⟨rfl,z,h⟩;have O:=Z z;have W:=Z (aP.out.trans h);clear z h;go_wp2_with fail;go_roundw;case rel=>exact⟨i+1,by go_num,by omega,by rw[ax.out,AP (by omega)];exact O.out,W.out⟩
     case measure=>simp[intOf];omega
   ·have bK:decide ((i:Int)<(n.kids.length:Int))=false:=As (by omega);have J:=bf.out;rw[show Pu rec n i=[] by unfold Pu;rw[List.getElem?_eq_none (by omega)]]at J;have ax:=Z J;clear J ah ai;go_wp2_with fail;refine(M.out _ [[59,59]] _ aO.out (by simp)).mono ?_;rintro e aR ⟨rfl,z,h⟩;have O:=Z z;have W:=Z (aP.out.trans h);clear z h;go_wp2_with fail;go_roundw;case rel=>exact⟨i+1,by go_num,by omega,by rw[ax.out];exact O.out,W.out⟩
    case measure=>simp[intOf];omega
  ·obtain rfl:i=n.AT.length:=by omega
   have bB:decide ((n.AT.length:Int)<(n.AT.length:Int))=false:=As (by omega);clear aI af;go_wp2_with fail;refine(M.out _ [[32,101,115,97,99]] _ ba.out (by simp)).mono ?_;rintro e aR ⟨rfl,z,h⟩;have O:=Z z;have W:=Z (bb.out.trans h);clear z h;go_wp2_with fail;go_end0
   exact⟨rfl,O.out,a0.out.trans W.out⟩
end Go.Proofs.YtdhfhphbkfgamaaGreat
