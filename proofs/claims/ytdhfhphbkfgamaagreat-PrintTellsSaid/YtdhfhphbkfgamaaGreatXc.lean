/- PrintTells: a part of its proof. -/
import Derived.Recover
import Derived.Defers
import Derived.Laws.Pointers
import Derived.Test.YtdhfhphbkfgamaaGreatXb
set_option maxRecDepth 100000
set_option maxHeartbeats 64000000
namespace Go.Proofs.YtdhfhphbkfgamaaGreat.Lx
section
open Go.RowKit
theorem NT (h:Nat) (w:World):CallsD Tryz.prog 57 #[.pointer (some ⟨h,0,none⟩)] .returning w fun e z w'=>e=.returned (.tuple #[])∧z=.returning∧w'=w:=by
 refine callsD_of_wpS Tryz.func57 rfl fun F I G=>?_
 apply wpS_seq;apply wpS_region;simp[wpOpsS,go_sem,recoverD,G,Tryz.ntmps57,Exit.thenS];simp only[Array.replicate_succ,Array.replicate_zero,List.push_toArray,List.append_toArray,List.nil_append,List.cons_append,BH,BF,BG];refine wpS_of_wp ?_;go_wp2
 refine⟨rfl,.returning,?_,_,results_none rfl _ _ _,rfl,rfl,rfl⟩;cases F;simp_all
def F7 (a e:Int):PanicEntry:= { v:=.iface 95 (.agg #[.int .i64 a,.int .i64 e]),recovered:=true }
theorem Gh (h:Nat) (a e:Int) (x y:Int) (w:World) (z:Y w h 95 #[.int .i64 x,.int .i64 y]):CallsD Tryz.prog 57 #[.pointer (some ⟨h,0,none⟩)] (.panicking [EZ a e]) w fun G I w'=>G=.returned (.tuple #[])∧I=.panicking [F7 a e]∧Y w' h 95 #[.int .i64 a,.int .i64 e]∧w.grownBy w' (some h):=by
 unfold EZ F7;have L: ∀F:World,(Instr.typeAssert (.iface 95 (.agg #[.int .i64 a,.int .i64 e])) 20 95 true).run Tryz.prog F=.ok (.tuple #[.agg #[.int .i64 a,.int .i64 e],.bool true]) F:=fun _=>by kernel_rfl
 have M:=Y.cell z 0;have N:=Y.cell z 1;have O:=Y.frozen z 0;have W:=Y.frozen z 1;have X:=Y.lt z;have J:=Z z;clear z;refine callsD_of_wpS Tryz.func57 rfl fun aa ab K=>?_
 apply wpS_seq;apply wpS_region;simp[wpOpsS,go_sem,recoverD,K,Tryz.ntmps57,Exit.thenS];simp only[Array.replicate_succ,Array.replicate_zero,List.push_toArray,List.append_toArray,List.nil_append,List.cons_append,BH,BF,BG];refine wpS_of_wp ?_;go_wp2
 refine⟨rfl,_,rfl,_,results_none rfl _ _ _,rfl,rfl,?_,?_⟩
 ·exact Y.alloc ((Y.AV J.out 0 (.int .i64 a)).AV 1 (.int .i64 e)) _
 ·exact AF (AM (AM (AB w (some h)) (p:=⟨h,0,none⟩) (.inl rfl) _) (p:=⟨h,1,none⟩) (.inl rfl) _) _
end
section
open Go.RowKit
def Dr:List (List UInt8):=[[38,38],[124,124],[59,59],[62,62],[60,38],[62,38],[60,62],[62,124],[10],[124],[59],[38],[40],[41],[60],[62]]
def CU (t s:List UInt8):Bool:=decide (t.take s.length=s)
def DT (t:List UInt8):List UInt8:=(Dr.find? (CU t)).getD []
theorem IQ: ∀s∈Dr,1≤s.length∧s.length≤2:=by decide
theorem KT {t:List UInt8} {j:Nat} (z:j<Dr.length) (F: ∀m (h:m<Dr.length),m<j→CU t Dr[m]=false) (G:CU t Dr[j]=true):DT t=Dr[j]:=by
 unfold DT;have h:Dr.find? (CU t)=some Dr[j]:=by
  rw[List.find?_eq_some_iff_getElem];exact⟨G,j,z,rfl,fun m I=>by rw[F m (by omega) I];rfl⟩
 rw[h];rfl
theorem La {t:List UInt8} (z: ∀m (h:m<Dr.length),CU t Dr[m]=false):DT t=[]:=by
 unfold DT;have h:Dr.find? (CU t)=none:=by
  rw[List.find?_eq_none];intro s hs;obtain⟨m,F,rfl⟩:=List.getElem_of_mem hs;rw[z m F];decide
 rw[h];rfl
theorem LK (t:List UInt8):DT t=[]∨(DT t∈Dr∧t.take (DT t).length=DT t):=by
 unfold DT;cases h:Dr.find? (CU t)with
 |none=>exact .inl rfl
 |some s=>
  have z:=List.mem_of_find?_eq_some h;have F:=List.find?_some h;exact .inr ⟨z,of_decide_eq_true F⟩
theorem Hz (rb d i:Nat) (l:List UInt8) (w:World) (h:B8 w rb l d) (af:i≤l.length) (ag:l.length≤1000000):
  Calls Tryz.prog 79 #[.pointer (some ⟨rb,0,none⟩),.int .i64 i] w fun e w'=>e=.returned (sv (DT (l.drop i)))∧w.grownBy w' none:=by
 have H:=Z h;have ah:=Z IQ;have an:Dr.length=16:=rfl;have ao:=Y.lt h;have N:Y (w.alloc (.cells (Dr.map sv).toArray 9)) w.heap.size 9 (Dr.map sv).toArray:=Y.new w 9 _;have O:=Z N;have W:=Z (show B8 (w.alloc (.cells (Dr.map sv).toArray 9)) rb l d from Y.alloc h _);have G:=Z (AF (AB w none) (.cells (Dr.map sv).toArray 9));obtain⟨F,X⟩: ∃F,w.alloc (.cells (Dr.map sv).toArray 9)=F:=⟨_,rfl⟩;have ai:=Z X;rw[X]at O W G;clear h N;unfold sv;go_enter Tryz.func79,Tryz.ntmps79;go_wp2_with (first|(refine Gc (o:=⟨some 7,_,_,_,_,_⟩) (.slice (some ⟨w.heap.size,0,none⟩) 16 16) F rfl (by rw[←ai.out];kernel_rfl) ?_));go_loopw [9] (fun v wr=> ∃j:Nat,v=.int .i64 j∧j≤16∧(∀m (h:m<Dr.length),m<j→CU (l.drop i) Dr[m]=false)∧wr=F) (fun v _=>16-(intOf v).toNat);case atStart=>exact⟨0,rfl,by omega,fun m _ h=>by omega,rfl⟩
 case round=>
  obtain⟨j,rfl,ap,aa,rfl⟩:=hrel;have I:=Z aa;clear aa;by_cases aq:j<16
  ·have aj:decide ((j:Int)<16)=true:=At (by omega);have ar:(0:Int)≤j∧(j:Int)<16:=(by omega);have J:j<Dr.length:=(by omega);obtain⟨s,hs⟩: ∃s,Dr[j]=s:=⟨_,rfl⟩;have au:wr.cell? ⟨w.heap.size,j,none⟩=some (.string ⟨s.toArray⟩):=by
    rw[Y.cell O.out j,List.getElem?_toArray,List.getElem?_map,List.getElem?_eq_getElem J,hs];rfl
   have ak:s.length≤1000:=(by have:=(ah.out s (by rw[←hs];exact List.getElem_mem J)).2;omega);have z:=Ga rb d i l s wr W.out af ag ak;have ab:decide ((l.drop i).take s.length=s)=CU (l.drop i) s:=rfl;rw[ab]at z;obtain⟨b,K⟩: ∃b,CU (l.drop i) s=b:=⟨_,rfl⟩;rw[K]at z;unfold sv at z;have ac:=Z z;have ad:=Z K;have L:=Z hs;clear z ab K hs;cases b with
   |true=>
    go_wp2_with fail;refine ac.out.mono ?_;rintro e al ⟨rfl,rfl⟩;go_wp2_with fail;go_ret;have:=KT J I.out (by rw[L.out];exact ad.out);exact⟨by rw[this,L.out];rfl,G.out⟩
   |false=>
    go_wp2_with fail;refine ac.out.mono ?_;rintro e al ⟨rfl,rfl⟩;go_wp2_with fail;go_roundw;case rel=>
     refine⟨j+1,by go_num,by omega,fun m M aw=>?_,trivial⟩;by_cases e:m=j
     ·subst e;rw[L.out];exact ad.out
     ·exact I.out m M (by omega)
    case measure=>simp[intOf];omega
  ·have aj:decide ((j:Int)<16)=false:=Aq (by omega);have ae:=La (t:=l.drop i) (fun m M=>I.out m M (by omega));have am:=Z ae;clear ae;go_wp2_with fail;go_ret;exact⟨by rw[am.out];rfl,G.out⟩
def DA:List UInt8:=[32,9,10,124,38,59,60,62,40,41]
def De (t:List UInt8):Rs:=
 match t with
 |[]=> .ok 0
 |c::r=>
  if C3 DA c=true then .ok 0
  else match Ac 25 false (c::r)with
   | .more=> .more
   | .deep a=> .deep a
   | .ok n=>(De (r.drop (n-1))).add (max n 1)
termination_by t.length
decreasing_by
 all_goals simp
 all_goals omega
theorem Fi:De []=.ok 0:=by rw[De]
theorem Et (c:UInt8) (r:List UInt8):De (c::r)=if C3 DA c=true then .ok 0
 else match Ac 25 false (c::r)with
  | .more=> .more
  | .deep a=> .deep a
  | .ok n=>(De (r.drop (n-1))).add (max n 1):=by rw[De]
theorem ME: ∀(z:Nat) (t:List UInt8) (n:Nat),t.length=z→De t=.ok n→n≤t.length:=by
 intro z;induction z using Nat.strongRecOn with
 |ind z ih=>
  intro t n G h;match t,G,h with
  |[],_,h=>rw[Fi]at h;injection h with h;omega
  |c::r,G,h=>
   rw[BP]at G⊢;rw[Et]at h;split at h
   ·injection h with h;omega
   ·cases F:Ac 25 false (c::r)with
    |more=>rw[F]at h;cases h
    |deep a=>rw[F]at h;cases h
    |ok q=>
     rw[F]at h;have I:=I9 _ _ _ _ F;rw[BP]at I;obtain⟨m,J,rfl⟩:=Rs.Cu h;have:=ih _ (by rw[Dq];omega) (r.drop (q-1)) _ rfl J;rw[Dq]at this;omega
theorem JE (rb i:Nat) (l:List UInt8) (w:World) (ak:B8 w rb l 0) (aw:i≤l.length) (ax:l.length≤1000000):
  Calls Tryz.prog 80 #[.pointer (some ⟨rb,0,none⟩),.int .i64 i] w fun e w'=>e=(De (l.drop i)).out i l.length∧w.grownBy w' (some rb)∧ ∀n,De (l.drop i)=.ok n→B8 w' rb l 0:=by
 have aJ:=sz l;obtain⟨R,J⟩: ∃R,(De (l.drop i)).add i=R:=⟨_,rfl⟩;have al:(De (l.drop i)).out i l.length=R.out 0 l.length:=by
  rw[←J];cases De (l.drop i)<;>simp[Rs.add,Rs.out]
 suffices H:Calls Tryz.prog 80 #[.pointer (some ⟨rb,0,none⟩),.int .i64 i] w fun z w'=>z=R.out 0 l.length∧w.grownBy w' (some rb)∧((∃n,R=.ok n)→B8 w' rb l 0) by
  refine H.mono ?_;rintro z w' ⟨rfl,ay,az⟩;exact⟨al.symm,ay,fun n h=>az ⟨i+n,by rw[←J,h];rfl⟩⟩
 have aA:=Z J;have aB:=Z ak;have aC:=Z (fun(c:UInt8) w'=>Qx ⟨#[32,9,10,124,38,59,60,62,40,41]⟩ c.toNat w');clear J al ak;go_enter Tryz.func80,Tryz.ntmps80;go_wp2_with fail;go_loopw [1] (fun v wr=> ∃k:Nat,v=.int .i64 k∧k≤l.length∧B8 wr rb l 0∧w.grownBy wr (some rb)∧(De (l.drop k)).add k=R) (fun v _=>l.length+1-(intOf v).toNat);case atStart=>exact⟨i,rfl,aw,aB.out,AB _ _,aA.out⟩
 case round=>
  obtain⟨k,rfl,hk,N,am,an⟩:=hrel;have aa:=Z N;have M:=Z am;have G:=Z an;have aK:=N.c0;have aL:=Y.lt N;clear N am an;by_cases ab:k<l.length
  ·have aD:decide ((k:Int)<(l.length:Int))=true:=At (by omega);have aE:=BC l k ab;have aM:(0:Int)≤k∧(k:Int)<(l.length:Int):=(by omega);have O:=CC ab;obtain⟨c,ac⟩: ∃c,l[k]=c:=⟨_,rfl⟩;rw[ac]at aE O;have F:=Et c (l.drop (k+1));rw[←O]at F;have hx:=fun w'=>aC.out c w'
   have ad:((c.toNat:Int).toNat.toUInt8)=c:=(by simp);rw[ad]at hx;obtain⟨x,W⟩: ∃x,Lib.indexByte (ByteArray.mk #[32,9,10,124,38,59,60,62,40,41]).data.toList c=x:=⟨_,rfl⟩;rw[W]at hx;have ae:C3 DA c=decide (0≤x):=(by rw[←W];rfl);rw[ae]at F;have X:=Z hx;by_cases ao:0≤x
   ·have af:decide (0≤x)=true:=At ao;have aF:decide (x<0)=false:=Aq (by omega);rw[Ah af]at F;have I:=Z F;clear F O ac hx W ae ad;go_wp2_with fail;refine(X.out _).mono ?_;rintro z ag ⟨rfl,rfl⟩;go_wp2_with fail;refine bodyPost_ret (results_tmp (t:=4) rfl _ _ _) rfl ⟨?_,M.out,fun _=>aa.out⟩;rw[←G.out,I.out];simp[Rs.add,Rs.out]
   ·have af:decide (0≤x)=false:=Aq ao;have aF:decide (x<0)=true:=At (by omega);rw[U (by rw[af];decide)]at F;have ah:=O5 25 rb 0 k false l wr aa.out rfl ab ax;obtain⟨P,ai⟩: ∃P,Ac 25 false (l.drop k)=P:=⟨_,rfl⟩;rw[ai]at F ah;have ap: ∀n,P=.ok n→k+n≤l.length:=fun n h=>by
     have:=I9 25 false (l.drop k) n (by rw[ai,h]);rw[Dq]at this;omega
    have I:=Z F;have K:=Z ah;clear F O ac hx W ae ad ah ai;cases P with
    |more=>
     unfold Rs.out at K;go_wp2_with fail;refine(X.out _).mono ?_;rintro z ag ⟨rfl,rfl⟩;go_wp2_with fail;refine K.out.mono ?_;rintro z aq ⟨rfl,L,_⟩;refine A8 rfl (A8 ?_ (A8 (AJ M.out L) ?_))
     ·rw[←G.out,I.out];rfl
     ·rintro⟨n,h⟩;rw[←G.out,I.out]at h;cases h
    |deep a=>
     unfold Rs.out at K;go_wp2_with fail;refine(X.out _).mono ?_;rintro z ag ⟨rfl,rfl⟩;go_wp2_with fail;refine K.out.mono ?_;rintro z aq ⟨rfl,L,_⟩;refine A8 rfl (A8 ?_ (A8 (AJ M.out L) ?_))
     ·rw[←G.out,I.out];simp[Rs.add,Rs.out]
     ·rintro⟨n,h⟩;rw[←G.out,I.out]at h;cases h
    |ok n=>
     have h:=ap n rfl;have ar:(l.drop (k+1)).drop (n-1)=l.drop (k+max n 1):=(by rw[List.drop_drop];congr 1;omega);have aj:=I.out;simp only[ar]at aj;have aG:=Z aj;clear aj ar ap;unfold Rs.out at K;go_wp2_with fail;refine(X.out _).mono ?_;rintro z ag ⟨rfl,rfl⟩;go_wp2_with fail;refine K.out.mono ?_;rintro z aq ⟨rfl,L,au⟩;have aH:=Z (au n rfl);have aI:=Z (AJ M.out L);clear L au;go_wp2_with (first|(refine KV ((k+max n 1:Nat):Int) ((k:Int)+n) ((k:Int)+1) rfl rfl (by omega) ?_));go_roundw;case rel=>exact⟨k+max n 1,by go_num,by omega,aH.out,aI.out,by rw[←G.out,aG.out,Rs.add_add]⟩
     case measure=>simp[intOf];omega
  ·have aD:decide ((k:Int)<(l.length:Int))=false:=Aq (by omega);have J:R=.ok k:=by
    have:=G.out;rw[List.drop_eq_nil_of_le (by omega),Fi]at this;exact this.symm
   subst J;go_wp2_with fail;refine bodyPost_ret (results_tmp (t:=4) rfl _ _ _) rfl ⟨by simp[Rs.out],M.out,fun _=>aa.out⟩
end
section
open Go.RowKit
def A4 (t:List UInt8):Nat:=
 match t with
 |[]=>0
 |c::r=>
  if c=32∨c=9 then 1+A4 r
  else if(c::r).take 2=[92,10]then 2+A4 (r.drop 1)
  else if c=35 then((c::r).takeWhile (· !=10)).length
  else 0
termination_by t.length
decreasing_by
 all_goals simp
 all_goals omega
theorem Dv:A4 []=0:=by rw[A4]
theorem Cp (c:UInt8) (r:List UInt8):A4 (c::r)=if c=32∨c=9 then 1+A4 r
 else if(c::r).take 2=[92,10]then 2+A4 (r.drop 1)
 else if c=35 then((c::r).takeWhile (· !=10)).length
 else 0:=by rw[A4]
theorem Lr (t:List UInt8):(Lib.indexByte t 10<0→(t.takeWhile (· !=10)).length=t.length)∧(0≤Lib.indexByte t 10→((t.takeWhile (· !=10)).length:Int)=Lib.indexByte t 10∧(t.drop (t.takeWhile (· !=10)).length).head? =some 10):=by
 induction t with
 |nil=>exact⟨fun _=>rfl,fun h=>Ai h (by decide)⟩
 |cons b l ih=>
  have J:Lib.indexByte (b::l) 10=if b==10 then 0 else if Lib.indexByte l 10== -1 then-1 else Lib.indexByte l 10+1:=rfl
  have M:=Lib.indexByte_ge l 10;rw[J];by_cases F:b=10
  ·subst F;exact⟨fun h=>Ai h (by simp),fun _=>⟨rfl,rfl⟩⟩
  ·have G:(b==10)=false:=(by rw[beq_eq_false_iff_ne];exact F);have K:(b !=10)=true:=(by simp only[bne,G];rfl);rw[show List.takeWhile (fun x:UInt8=>x !=10) (b::l)=b::l.takeWhile (fun x=>x !=10)from by simp[List.takeWhile_cons,K],G,BP,BP];by_cases I:Lib.indexByte l 10= -1
   ·have z:(Lib.indexByte l 10== -1)=true:=(by rw[beq_iff_eq];exact I);rw[z];exact⟨fun _=>by rw[ih.1 (by omega)],fun h=>Ai h (by simp)⟩
   ·have z:(Lib.indexByte l 10== -1)=false:=(by rw[beq_eq_false_iff_ne];exact I);rw[z];obtain⟨N,L⟩:=ih.2 (by omega);refine⟨fun h=>?_,fun _=>⟨?_,?_⟩⟩
    ·exfalso;have:Lib.indexByte l 10+1<0:=h;omega
    ·show(((l.takeWhile (· !=10)).length+1:Nat):Int)=Lib.indexByte l 10+1;omega
    ·rw[List.drop_succ_cons];exact L
theorem Me {t:List UInt8} (h:t.head? =some 10):A4 t=0:=by
 cases t with
 |nil=>rw[Dv]
 |cons c r=>
  injection h with h;subst h;rw[Cp,U (by decide),U,U (by decide)];intro e;cases r with
  |nil=>cases e
  |cons d r=>injection e with e _;exact Ai e (by decide)
theorem GR: ∀(h:Nat) (t:List UInt8),t.length=h→A4 t≤t.length:=by
 intro h;induction h using Nat.strongRecOn with
 |ind h ih=>
  intro t z;match t,z with
  |[],_=>rw[Dv];exact DM _
  |c::r,z=>
   rw[BP]at z;rw[Cp,BP];split
   ·have:=ih _ (by omega) r rfl;omega
   ·split
    ·rename_i F;have G:=take_len F;have:=ih _ (by rw[Dq];omega) (r.drop 1) rfl;rw[Dq]at this;simp at G;omega
    ·split
     ·have:=(List.takeWhile_prefix (fun x:UInt8=>x !=10) (l:=c::r)).length_le;rw[BP]at this;exact this
     ·exact DM _
theorem Z2g {P:Prop} (h:P:=by
 go_wp2_with fail;go_ret;exact⟨by rw[K.out];rfl,rfl⟩):P:=h
theorem LW (rb d i:Nat) (l:List UInt8) (w:World) (aa:B8 w rb l d) (ar:i≤l.length) (au:l.length≤1000000):
  Calls Tryz.prog 58 #[.pointer (some ⟨rb,0,none⟩),.int .i64 i] w fun e w'=>e=.returned (.int .i64 ((i:Int)+A4 (l.drop i)))∧w'=w:=by
 have ai:=Z (fun k hk=>Ga rb d k l [92,10] w aa hk au (by decide));unfold sv at ai;have aw:=Z (fun(t:List UInt8) w'=>Qx ⟨t.toArray⟩ 10 w');have aD:=aa.c0;have aE:=Y.lt aa;have aF:=sz l;have aG: ∀n,(ByteArray.mk l.toArray).extract n l.length=⟨(l.drop n).toArray⟩:=fun n=>GK l n _ rfl
 obtain⟨R,aj⟩: ∃R,i+A4 (l.drop i)=R:=⟨_,rfl⟩;have ak:(i:Int)+A4 (l.drop i)=R:=(by omega);rw[ak];have ax:=Z aj;clear aj ak aa;go_enter Tryz.func58,Tryz.ntmps58;go_wp2_with fail;go_loopw [1] (fun v wr=> ∃k:Nat,v=.int .i64 k∧k≤l.length∧k+A4 (l.drop k)=R∧wr=w) (fun v _=>l.length+1-(intOf v).toNat);case atStart=>exact⟨i,rfl,ar,ax.out,rfl⟩
 case round=>
  obtain⟨k,rfl,hk,al,rfl⟩:=hrel;have L:=Z al;clear al;by_cases am:k<l.length
  ·have ay:decide ((k:Int)<(l.length:Int))=true:=At (by omega);have az:=BC l k am;have aH:(0:Int)≤k∧(k:Int)<(l.length:Int):=(by omega);have aI:(0:Int)≤k∧(k:Int)≤(l.length:Int):=(by omega);have I:=CC am;obtain⟨c,M⟩: ∃c,l[k]=c:=⟨_,rfl⟩;rw[M]at az I;have h:=Cp c (l.drop (k+1));rw[←I]at h;have z:=ai.out k (by omega);have aA:(l.drop (k+1)).drop 1=l.drop (k+2):=(by rw[List.drop_drop]);by_cases F:c=32∨c=9
   ·rw[Ah F]at h;have ad:=Z h;clear h I M z;rcases F with rfl|rfl
    all_goals
     go_wp2_with fail;go_roundw;case rel=>exact⟨k+1,by go_num,by omega,by rw[←L.out,ad.out];omega,trivial⟩
     case measure=>simp[intOf];omega
   rw[U F]at h;have aJ:((c.toNat:Int)==32)=false:=Au (d:=32) (fun e=>F (.inl e));have aK:((c.toNat:Int)==9)=false:=Au (d:=9) (fun e=>F (.inr e));by_cases G:(l.drop k).take 2=[92,10]
   ·rw[Ah G,aA]at h;have an:=take_len G;rw[Dq]at an;simp at an;have J:decide ((l.drop k).take [(92:UInt8),10].length=[92,10])=true:=At G;rw[J]at z;have O:=Z z;have ad:=Z h;clear h I M z F G J;go_wp2_with fail;refine O.out.mono ?_;rintro e W ⟨rfl,rfl⟩;go_wp2_with fail;go_roundw;case rel=>exact⟨k+2,by go_num,by omega,by rw[←L.out,ad.out];omega,trivial⟩
    case measure=>simp[intOf];omega
   rw[U G]at h;have J:decide ((l.drop k).take [(92:UInt8),10].length=[92,10])=false:=Aq G;rw[J]at z;have O:=Z z;by_cases X:c=35
   ·rw[Ah X]at h;subst X;have N:=Lr (l.drop k);have ao:=(List.takeWhile_prefix (fun x:UInt8=>x !=10) (l:=l.drop k)).length_le;rw[Dq]at ao;have hx:=fun w'=>aw.out (l.drop k) w'
    have aB:((10:Int).toNat.toUInt8)=10:=rfl;rw[aB]at hx;obtain⟨x,ab⟩: ∃x,Lib.indexByte (ByteArray.mk (l.drop k).toArray).data.toList 10=x:=⟨_,rfl⟩;rw[ab]at hx;have ae:Lib.indexByte (l.drop k) 10=x:=(by rw[←ab]);rw[ae]at N;obtain⟨n,ac⟩: ∃n,((l.drop k).takeWhile (· !=10)).length=n:=⟨_,rfl⟩;rw[ac]at N h ao;have ap:=Z hx;by_cases af:x<0
    ·have aC:decide (x<0)=true:=At af;have ag:=N.1 af;rw[Dq]at ag;have K:=Z (show R=l.length by rw[←L.out,h];omega);clear h I M z F G J N hx ab ae ac;go_wp2_with fail;refine O.out.mono ?_;rintro e W ⟨rfl,rfl⟩;go_wp2_with fail;refine(ap.out _).mono ?_;rintro e W ⟨rfl,rfl⟩;exact Z2g
    ·have aC:decide (x<0)=false:=Aq af;obtain⟨ag,aq⟩:=N.2 (by omega);have ah:=Me aq;rw[List.drop_drop]at ah;obtain rfl:x=n:=ag.symm;have K:=Z (show k+n+A4 (l.drop (k+n))=R by rw[ah,←L.out,h];rfl);have aL:1≤n:=by
      rw[←ac,I,show List.takeWhile (fun x:UInt8=>x !=10) (35::l.drop (k+1))=35::(l.drop (k+1)).takeWhile (fun x=>x !=10)from by simp[List.takeWhile_cons],BP];omega
     clear h I M z F G J N hx ab ae ac aq ah;go_wp2_with fail;refine O.out.mono ?_;rintro e W ⟨rfl,rfl⟩;go_wp2_with fail;refine(ap.out _).mono ?_;rintro e W ⟨rfl,rfl⟩;go_wp2_with fail;go_roundw;case rel=>exact⟨k+n,by go_num,by omega,K.out,trivial⟩
     case measure=>simp[intOf];omega
   ·rw[U X]at h;have aM:((c.toNat:Int)==35)=false:=Au (d:=35) X;have K:=Z (show R=k by rw[←L.out,h];omega);clear h I M z F G J X;go_wp2_with fail;refine O.out.mono ?_;rintro e W ⟨rfl,rfl⟩;exact Z2g
  ·have ay:decide ((k:Int)<(l.length:Int))=false:=Aq (by omega);have K:=Z (show R=k by rw[←L.out,List.drop_eq_nil_of_le (by omega),Dv];omega);exact Z2g
end
end Go.Proofs.YtdhfhphbkfgamaaGreat.Lx
