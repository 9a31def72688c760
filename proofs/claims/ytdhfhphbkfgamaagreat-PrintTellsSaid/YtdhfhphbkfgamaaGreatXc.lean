/- A part. -/
import Derived.Recover
import Derived.Defers
import Derived.Laws.Pointers
import Derived.Test.YtdhfhphbkfgamaaGreatXb
set_option maxRecDepth 100000
set_option linter.all false
set_option maxHeartbeats 0
namespace Go.Proofs.YtdhfhphbkfgamaaGreat.Lx
open Go.RowKit Proofs.Tryz
theorem NV(h:Nat)(w:World):CallsD prog 57 #[.pointer (some ⟨h,0,none⟩)] .returning w fun e z w'=>e=.returned (.tuple #[])/\z=.returning/\w'=w:=by
 refine callsD_of_wpS func57 rfl fun F I G=>?_
 apply wpS_seq;apply wpS_region;simp[wpOpsS,go_sem,recoverD,G,ntmps57,Exit.thenS];simp only[Array.replicate_succ,Array.replicate_zero,List.push_toArray,List.append_toArray,List.nil_append,List.cons_append,BH,BI,BJ];refine wpS_of_wp ?_;go_wp2
 refine⟨rfl,.returning,?_,_,results_none rfl _ _ _,rfl,rfl,rfl⟩;cases F;simp_all
def GP(a e:Int):PanicEntry:= { v:=.iface 95 (.agg #[.int .i64 a,.int .i64 e]),recovered:=true }
theorem Gz(h:Nat)(a e:Int)(x y:Int)(w:World)(z:Y w h 95 #[.int .i64 x,.int .i64 y]):CallsD prog 57 #[.pointer (some ⟨h,0,none⟩)] (.panicking [Eu a e]) w fun G I w'=>G=.returned (.tuple #[])/\I=.panicking [GP a e]/\Y w' h 95 #[.int .i64 a,.int .i64 e]/\w.grownBy w' (some h):=by
 unfold Eu GP;have L:∀F:World,(Instr.typeAssert (.iface 95 (.agg #[.int .i64 a,.int .i64 e])) 20 95 true).run prog F=.ok (.tuple #[.agg #[.int .i64 a,.int .i64 e],.bool true]) F:=fun _=>by kernel_rfl
 have M:=Y.cell z 0;have N:=Y.cell z 1;have O:=Y.frozen z 0;have W:=Y.frozen z 1;have X:=Y.lt z;have J:=Z z;clear z;refine callsD_of_wpS func57 rfl fun aa ab K=>?_
 apply wpS_seq;apply wpS_region;simp[wpOpsS,go_sem,recoverD,K,ntmps57,Exit.thenS];simp only[Array.replicate_succ,Array.replicate_zero,List.push_toArray,List.append_toArray,List.nil_append,List.cons_append,BH,BI,BJ];refine wpS_of_wp ?_;go_wp2
 refine⟨rfl,_,rfl,_,results_none rfl _ _ _,rfl,rfl,?_,?_⟩
 ·exact Y.alloc ((Y.AW J.out 0 (.int .i64 a)).AW 1 (.int .i64 e)) _
 ·exact AF (AN (AN (AB w (some h)) (p:=⟨h,0,none⟩) (.inl rfl) _) (p:=⟨h,1,none⟩) (.inl rfl) _) _
def D9:List (List UInt8):=[[38,38],[124,124],[59,59],[62,62],[60,38],[62,38],[60,62],[62,124],[10],[124],[59],[38],[40],[41],[60],[62]]
def Ca(t s:List UInt8):Bool:=decide (t.take s.length=s)
def De(t:List UInt8):List UInt8:=(D9.find? (Ca t)).getD []
theorem Ix:∀s∈D9,1<=s.length/\s.length<=2:=by decide
theorem LP{t:List UInt8}{j:Nat}(z:j<D9.length)(F:∀m (h:m<D9.length),m<j->Ca t D9[m]=false)(G:Ca t D9[j]=true):De t=D9[j]:=by
 unfold De;have h:D9.find? (Ca t)=some D9[j]:=by
  rw[List.find?_eq_some_iff_getElem];exact⟨G,j,z,rfl,fun m I=>by rw[F m (by omega) I];rfl⟩
 rw[h];rfl
theorem MB{t:List UInt8}(z:∀m (h:m<D9.length),Ca t D9[m]=false):De t=[]:=by
 unfold De;have h:D9.find? (Ca t)=none:=by
  rw[List.find?_eq_none];intro s hs;obtain⟨m,F,rfl⟩:=List.getElem_of_mem hs;rw[z m F];decide
 rw[h];rfl
theorem MJ(t:List UInt8):De t=[]\/(De t∈D9/\t.take (De t).length=De t):=by
 unfold De;cases h:D9.find? (Ca t)with
 |none=>exact .inl rfl
 |some s=>
  have z:=List.mem_of_find?_eq_some h;have F:=List.find?_some h;exact .inr ⟨z,of_decide_eq_true F⟩
theorem IW(rb d i:Nat)(l:List UInt8)(w:World)(h:CB w rb l d)(af:i<=l.length)(ag:l.length<=1000000):
  Calls prog 79 #[.pointer (some ⟨rb,0,none⟩),.int .i64 i] w fun e w'=>e=.returned (sv (De (l.drop i)))/\w.grownBy w' none:=by
 have H:=Z h;have ah:=Z Ix;have an:D9.length=16:=rfl;have ao:=Y.lt h;have M:Y (w.alloc (.cells (D9.map sv).toArray 9)) w.heap.size 9 (D9.map sv).toArray:=Y.new w 9 _;have N:=Z M;have O:=Z (show CB (w.alloc (.cells (D9.map sv).toArray 9)) rb l d from Y.alloc h _);have F:=Z (AF (AB w none) (.cells (D9.map sv).toArray 9));obtain⟨W,X⟩:=U (w.alloc (.cells (D9.map sv).toArray 9));have ai:=Z X;rw[X]at N O F;clear h M;unfold sv;go_enter func79,ntmps79;go_wp2_with (first|(refine Hd (o:=⟨some 7,_,_,_,_,_⟩) (.slice (some ⟨w.heap.size,0,none⟩) 16 16) W rfl (by rw[<-ai.out];kernel_rfl) ?_));go_loopw [9] (fun v wr=> ∃j:Nat,v=.int .i64 j/\j<=16/\(∀m (h:m<D9.length),m<j->Ca (l.drop i) D9[m]=false)/\wr=W) (fun v _=>16-(intOf v).toNat);case atStart=>exact⟨0,rfl,by omega,fun m _ h=>by omega,rfl⟩
 case round=>
  obtain⟨j,rfl,ap,aa,rfl⟩:=hrel;have G:=Z aa;clear aa;by_cases aq:j<16
  ·have aj:decide ((j:Int)<16)=true:=Au (by omega);have ar:(0:Int)<=j/\(j:Int)<16:=(by omega);have I:j<D9.length:=(by omega);obtain⟨s,hs⟩:=U (D9[j]);have au:wr.cell? ⟨w.heap.size,j,none⟩=some (.string ⟨s.toArray⟩):=by
    rw[Y.cell N.out j,List.getElem?_toArray,II,CZ I,hs];rfl
   have ak:s.length<=1000:=(by have:=(ah.out s (by rw[<-hs];exact Cp I)).2;omega);have z:=Gw rb d i l s wr O.out af ag ak;have ab:decide ((l.drop i).take s.length=s)=Ca (l.drop i) s:=rfl;rw[ab]at z;obtain⟨b,J⟩:=U (Ca (l.drop i) s);rw[J]at z;unfold sv at z;have ac:=Z z;have ad:=Z J;have K:=Z hs;clear z ab J hs;cases b with
   |true=>
    go_wp2_with fail;refine ac.out.mono ?_;rintro e al ⟨rfl,rfl⟩;go_wp2_with fail;go_ret;have:=LP I G.out (by rw[K.out];exact ad.out);exact⟨by rw[this,K.out];rfl,F.out⟩
   |false=>
    go_wp2_with fail;refine ac.out.mono ?_;rintro e al ⟨rfl,rfl⟩;go_wp2_with fail;go_roundw;case rel=>
     refine⟨j+1,by go_num,by omega,fun m L aw=>?_,trivial⟩;by_cases e:m=j
     ·subst e;rw[K.out];exact ad.out
     ·exact G.out m L (by omega)
    case measure=>simp[intOf];omega
  ·have aj:decide ((j:Int)<16)=false:=As (by omega);have ae:=MB (t:=l.drop i) (fun m L=>G.out m L (by omega));have am:=Z ae;clear ae;go_wp2_with fail;go_ret;exact⟨by rw[am.out];rfl,F.out⟩
def DF:List UInt8:=[32,9,10,124,38,59,60,62,40,41]
def Dn(t:List UInt8):Rs:=
 match t with
 |[]=> .ok 0
 |c::r=>
  if DB DF c=true then .ok 0
  else match Ad 25 false (c::r)with
   | .more=> .more
   | .deep a=> .deep a
   | .ok n=>(Dn (r.drop (n-1))).add (max n 1)
termination_by t.length
decreasing_by
 all_goals simp
 all_goals omega
theorem GG:Dn []=.ok 0:=by rw[Dn]
theorem FK(c:UInt8)(r:List UInt8):Dn (c::r)=if DB DF c=true then .ok 0
 else match Ad 25 false (c::r)with
  | .more=> .more
  | .deep a=> .deep a
  | .ok n=>(Dn (r.drop (n-1))).add (max n 1):=by rw[Dn]
theorem Mp:∀(z:Nat) (t:List UInt8) (n:Nat),t.length=z->Dn t=.ok n->n<=t.length:=by
 intro z;induction z using Nat.strongRecOn with
 |ind z ih=>
  intro t n G h;match t,G,h with
  |[],_,h=>rw[GG]at h;injection h with h;omega
  |c::r,G,h=>
   rw[BR]at G⊢;rw[FK]at h;split at h
   ·injection h with h;omega
   ·cases F:Ad 25 false (c::r)with
    |more=>rw[F]at h;cases h
    |deep a=>rw[F]at h;cases h
    |ok q=>
     rw[F]at h;have I:=JQ _ _ _ _ F;rw[BR]at I;obtain⟨m,J,rfl⟩:=Rs.C1 h;have:=ih _ (by rw[D8];omega) (r.drop (q-1)) _ rfl J;rw[D8]at this;omega
theorem JW(rb i:Nat)(l:List UInt8)(w:World)(ak:CB w rb l 0)(aw:i<=l.length)(ax:l.length<=1000000):
  Calls prog 80 #[.pointer (some ⟨rb,0,none⟩),.int .i64 i] w fun e w'=>e=(Dn (l.drop i)).out i l.length/\w.grownBy w' (some rb)/\ ∀n,Dn (l.drop i)=.ok n->CB w' rb l 0:=by
 have aJ:=sz l;obtain⟨R,J⟩:=U ((Dn (l.drop i)).add i);have al:(Dn (l.drop i)).out i l.length=R.out 0 l.length:=by
  rw[<-J];cases Dn (l.drop i)<;>simp[Rs.add,Rs.out]
 suffices H:Calls prog 80 #[.pointer (some ⟨rb,0,none⟩),.int .i64 i] w fun z w'=>z=R.out 0 l.length/\w.grownBy w' (some rb)/\((∃n,R=.ok n)->CB w' rb l 0) by
  refine H.mono ?_;rintro z w' ⟨rfl,ay,az⟩;exact⟨al.symm,ay,fun n h=>az ⟨i+n,by rw[<-J,h];rfl⟩⟩
 have aA:=Z J;have aB:=Z ak;have aC:=Z (fun(c:UInt8) w'=>Sj ⟨#[32,9,10,124,38,59,60,62,40,41]⟩ c.toNat w');clear J al ak;go_enter func80,ntmps80;go_wp2_with fail;go_loopw [1] (fun v wr=> ∃k:Nat,v=.int .i64 k/\k<=l.length/\CB wr rb l 0/\w.grownBy wr (some rb)/\(Dn (l.drop k)).add k=R) (fun v _=>l.length+1-(intOf v).toNat);case atStart=>exact⟨i,rfl,aw,aB.out,AB _ _,aA.out⟩
 case round=>
  obtain⟨k,rfl,hk,N,am,an⟩:=hrel;have aa:=Z N;have M:=Z am;have G:=Z an;have aK:=N.c0;have aL:=Y.lt N;clear N am an;by_cases ab:k<l.length
  ·have aD:decide ((k:Int)<(l.length:Int))=true:=Au (by omega);have aE:=BE l k ab;have aM:(0:Int)<=k/\(k:Int)<(l.length:Int):=(by omega);have O:=CF ab;obtain⟨c,ac⟩:=U (l[k]);rw[ac]at aE O;have F:=FK c (l.drop (k+1));rw[<-O]at F;have hx:=fun w'=>aC.out c w'
   have ad:((c.toNat:Int).toNat.toUInt8)=c:=(by simp);rw[ad]at hx;obtain⟨x,W⟩:=U (Lib.indexByte (ByteArray.mk #[32,9,10,124,38,59,60,62,40,41]).data.toList c);rw[W]at hx;have ae:DB DF c=decide (0<=x):=(by rw[<-W];rfl);rw[ae]at F;have X:=Z hx;by_cases ao:0<=x
   ·have af:decide (0<=x)=true:=Au ao;have aF:decide (x<0)=false:=As (by omega);rw[Ai af]at F;have I:=Z F;clear F O ac hx W ae ad;go_wp2_with fail;refine(X.out _).mono ?_;rintro z ag ⟨rfl,rfl⟩;go_wp2_with fail;refine bodyPost_ret (results_tmp (t:=4) rfl _ _ _) rfl ⟨?_,M.out,fun _=>aa.out⟩;rw[<-G.out,I.out];simp[Rs.add,Rs.out]
   ·have af:decide (0<=x)=false:=As ao;have aF:decide (x<0)=true:=Au (by omega);rw[AP (by rw[af];decide)]at F;have ah:=PZ 25 rb 0 k false l wr aa.out rfl ab ax;obtain⟨P,ai⟩:=U (Ad 25 false (l.drop k));rw[ai]at F ah;have ap:∀n,P=.ok n->k+n<=l.length:=fun n h=>by
     have:=JQ 25 false (l.drop k) n (by rw[ai,h]);rw[D8]at this;omega
    have I:=Z F;have K:=Z ah;clear F O ac hx W ae ad ah ai;cases P with
    |more=>
     unfold Rs.out at K;go_wp2_with fail;refine(X.out _).mono ?_;rintro z ag ⟨rfl,rfl⟩;go_wp2_with fail;refine K.out.mono ?_;rintro z aq ⟨rfl,L,_⟩;refine BC rfl (BC ?_ (BC (AJ M.out L) ?_))
     ·rw[<-G.out,I.out];rfl
     ·rintro⟨n,h⟩;rw[<-G.out,I.out]at h;cases h
    |deep a=>
     unfold Rs.out at K;go_wp2_with fail;refine(X.out _).mono ?_;rintro z ag ⟨rfl,rfl⟩;go_wp2_with fail;refine K.out.mono ?_;rintro z aq ⟨rfl,L,_⟩;refine BC rfl (BC ?_ (BC (AJ M.out L) ?_))
     ·rw[<-G.out,I.out];simp[Rs.add,Rs.out]
     ·rintro⟨n,h⟩;rw[<-G.out,I.out]at h;cases h
    |ok n=>
     have h:=ap n rfl;have ar:(l.drop (k+1)).drop (n-1)=l.drop (k+max n 1):=(by rw[List.drop_drop];congr 1;omega);have aj:=I.out;simp only[ar]at aj;have aG:=Z aj;clear aj ar ap;unfold Rs.out at K;go_wp2_with fail;refine(X.out _).mono ?_;rintro z ag ⟨rfl,rfl⟩;go_wp2_with fail;refine K.out.mono ?_;rintro z aq ⟨rfl,L,au⟩;have aH:=Z (au n rfl);have aI:=Z (AJ M.out L);clear L au;go_wp2_with (first|(refine Km ((k+max n 1:Nat):Int) ((k:Int)+n) ((k:Int)+1) rfl rfl (by omega) ?_));go_roundw;case rel=>exact⟨k+max n 1,by go_num,by omega,aH.out,aI.out,by rw[<-G.out,aG.out,Rs.add_add]⟩
     case measure=>simp[intOf];omega
  ·have aD:decide ((k:Int)<(l.length:Int))=false:=As (by omega);have J:R=.ok k:=by
    have:=G.out;rw[IG (by omega),GG]at this;exact this.symm
   subst J;go_wp2_with fail;refine bodyPost_ret (results_tmp (t:=4) rfl _ _ _) rfl ⟨by simp[Rs.out],M.out,fun _=>aa.out⟩
def A6(t:List UInt8):Nat:=
 match t with
 |[]=>0
 |c::r=>
  if c=32\/c=9 then 1+A6 r
  else if(c::r).take 2=[92,10]then 2+A6 (r.drop 1)
  else if c=35 then((c::r).takeWhile (· !=10)).length
  else 0
termination_by t.length
decreasing_by
 all_goals simp
 all_goals omega
theorem EC:A6 []=0:=by rw[A6]
theorem Cu(c:UInt8)(r:List UInt8):A6 (c::r)=if c=32\/c=9 then 1+A6 r
 else if(c::r).take 2=[92,10]then 2+A6 (r.drop 1)
 else if c=35 then((c::r).takeWhile (· !=10)).length
 else 0:=by rw[A6]
theorem Lu(t:List UInt8):(Lib.indexByte t 10<0->(t.takeWhile (· !=10)).length=t.length)/\(0<=Lib.indexByte t 10->((t.takeWhile (· !=10)).length:Int)=Lib.indexByte t 10/\(t.drop (t.takeWhile (· !=10)).length).head? =some 10):=by
 induction t with
 |nil=>exact⟨fun _=>rfl,fun h=>Aj h (by decide)⟩
 |cons b l ih=>
  have J:Lib.indexByte (b::l) 10=if b==10 then 0 else if Lib.indexByte l 10== -1 then-1 else Lib.indexByte l 10+1:=rfl
  have M:=Lib.indexByte_ge l 10;rw[J];by_cases F:b=10
  ·subst F;exact⟨fun h=>Aj h (by simp),fun _=>⟨rfl,rfl⟩⟩
  ·have G:(b==10)=false:=(by rw[A4];exact F);have K:(b !=10)=true:=(by simp only[bne,G];rfl);rw[show List.takeWhile (fun x:UInt8=>x !=10) (b::l)=b::l.takeWhile (fun x=>x !=10)from by simp[List.takeWhile_cons,K],G,BR,BR];by_cases I:Lib.indexByte l 10= -1
   ·have z:(Lib.indexByte l 10== -1)=true:=(by rw[DQ];exact I);rw[z];exact⟨fun _=>by rw[ih.1 (by omega)],fun h=>Aj h (by simp)⟩
   ·have z:(Lib.indexByte l 10== -1)=false:=(by rw[A4];exact I);rw[z];obtain⟨N,L⟩:=ih.2 (by omega);refine⟨fun h=>?_,fun _=>⟨?_,?_⟩⟩
    ·exfalso;have:Lib.indexByte l 10+1<0:=h;omega
    ·show(((l.takeWhile (· !=10)).length+1:Nat):Int)=Lib.indexByte l 10+1;omega
    ·rw[List.drop_succ_cons];exact L
theorem NB{t:List UInt8}(h:t.head? =some 10):A6 t=0:=by
 cases t with
 |nil=>rw[EC]
 |cons c r=>
  injection h with h;subst h;rw[Cu,AP (by decide),AP,AP (by decide)];intro e;cases r with
  |nil=>cases e
  |cons d r=>injection e with e _;exact Aj e (by decide)
theorem Gt:∀(h:Nat) (t:List UInt8),t.length=h->A6 t<=t.length:=by
 intro h;induction h using Nat.strongRecOn with
 |ind h ih=>
  intro t z;match t,z with
  |[],_=>rw[EC];exact DD _
  |c::r,z=>
   rw[BR]at z;rw[Cu,BR];split
   ·have:=ih _ (by omega) r rfl;omega
   ·split
    ·rename_i F;have G:=take_len F;have:=ih _ (by rw[D8];omega) (r.drop 1) rfl;rw[D8]at this;simp at G;omega
    ·split
     ·have:=(List.takeWhile_prefix (fun x:UInt8=>x !=10) (l:=c::r)).length_le;rw[BR]at this;exact this
     ·exact DD _
theorem MU(rb d i:Nat)(l:List UInt8)(w:World)(aa:CB w rb l d)(ar:i<=l.length)(au:l.length<=1000000):
  Calls prog 58 #[.pointer (some ⟨rb,0,none⟩),.int .i64 i] w fun e w'=>e=.returned (.int .i64 ((i:Int)+A6 (l.drop i)))/\w'=w:=by
 have ai:=Z (fun k hk=>Gw rb d k l [92,10] w aa hk au (by decide));unfold sv at ai;have aw:=Z (fun(t:List UInt8) w'=>Sj ⟨t.toArray⟩ 10 w');have aD:=aa.c0;have aE:=Y.lt aa;have aF:=sz l;have aG:∀n,(ByteArray.mk l.toArray).extract n l.length=⟨(l.drop n).toArray⟩:=fun n=>Gf l n _ rfl
 obtain⟨R,aj⟩:=U (i+A6 (l.drop i));have ak:(i:Int)+A6 (l.drop i)=R:=(by omega);rw[ak];have ax:=Z aj;clear aj ak aa;go_enter func58,ntmps58;go_wp2_with fail;go_loopw [1] (fun v wr=> ∃k:Nat,v=.int .i64 k/\k<=l.length/\k+A6 (l.drop k)=R/\wr=w) (fun v _=>l.length+1-(intOf v).toNat);case atStart=>exact⟨i,rfl,ar,ax.out,rfl⟩
 case round=>
  obtain⟨k,rfl,hk,al,rfl⟩:=hrel;have L:=Z al;clear al;by_cases am:k<l.length
  ·have ay:decide ((k:Int)<(l.length:Int))=true:=Au (by omega);have az:=BE l k am;have aH:(0:Int)<=k/\(k:Int)<(l.length:Int):=(by omega);have aI:(0:Int)<=k/\(k:Int)<=(l.length:Int):=(by omega);have I:=CF am;obtain⟨c,M⟩:=U (l[k]);rw[M]at az I;have h:=Cu c (l.drop (k+1));rw[<-I]at h;have z:=ai.out k (by omega);have aA:(l.drop (k+1)).drop 1=l.drop (k+2):=(by rw[List.drop_drop]);by_cases F:c=32\/c=9
   ·rw[Ai F]at h;have ad:=Z h;clear h I M z;rcases F with rfl|rfl
    all_goals
     go_wp2_with fail;go_roundw;case rel=>exact⟨k+1,by go_num,by omega,by rw[<-L.out,ad.out];omega,trivial⟩
     case measure=>simp[intOf];omega
   rw[AP F]at h;have aJ:((c.toNat:Int)==32)=false:=Aw (d:=32) (fun e=>F (.inl e));have aK:((c.toNat:Int)==9)=false:=Aw (d:=9) (fun e=>F (.inr e));by_cases G:(l.drop k).take 2=[92,10]
   ·rw[Ai G,aA]at h;have an:=take_len G;rw[D8]at an;simp at an;have J:decide ((l.drop k).take [(92:UInt8),10].length=[92,10])=true:=Au G;rw[J]at z;have O:=Z z;have ad:=Z h;clear h I M z F G J;go_wp2_with fail;refine O.out.mono ?_;rintro e W ⟨rfl,rfl⟩;go_wp2_with fail;go_roundw;case rel=>exact⟨k+2,by go_num,by omega,by rw[<-L.out,ad.out];omega,trivial⟩
    case measure=>simp[intOf];omega
   rw[AP G]at h;have J:decide ((l.drop k).take [(92:UInt8),10].length=[92,10])=false:=As G;rw[J]at z;have O:=Z z;by_cases X:c=35
   ·rw[Ai X]at h;subst X;have N:=Lu (l.drop k);have ao:=(List.takeWhile_prefix (fun x:UInt8=>x !=10) (l:=l.drop k)).length_le;rw[D8]at ao;have hx:=fun w'=>aw.out (l.drop k) w'
    have aB:((10:Int).toNat.toUInt8)=10:=rfl;rw[aB]at hx;obtain⟨x,ab⟩:=U (Lib.indexByte (ByteArray.mk (l.drop k).toArray).data.toList 10);rw[ab]at hx;have ae:Lib.indexByte (l.drop k) 10=x:=(by rw[<-ab]);rw[ae]at N;obtain⟨n,ac⟩:=U (((l.drop k).takeWhile (· !=10)).length);rw[ac]at N h ao;have ap:=Z hx;by_cases af:x<0
    ·have aC:decide (x<0)=true:=Au af;have ag:=N.1 af;rw[D8]at ag;have K:=Z (show R=l.length by rw[<-L.out,h];omega);clear h I M z F G J N hx ab ae ac;go_wp2_with fail;refine O.out.mono ?_;rintro e W ⟨rfl,rfl⟩;go_wp2_with fail;refine(ap.out _).mono ?_;rintro e W ⟨rfl,rfl⟩;go_wp2_with fail;go_ret;exact⟨by rw[K.out];rfl,rfl⟩
    ·have aC:decide (x<0)=false:=As af;obtain⟨ag,aq⟩:=N.2 (by omega);have ah:=NB aq;rw[List.drop_drop]at ah;obtain rfl:x=n:=ag.symm;have K:=Z (show k+n+A6 (l.drop (k+n))=R by rw[ah,<-L.out,h];rfl);have aL:1<=n:=by
      rw[<-ac,I,show List.takeWhile (fun x:UInt8=>x !=10) (35::l.drop (k+1))=35::(l.drop (k+1)).takeWhile (fun x=>x !=10)from by simp[List.takeWhile_cons],BR];omega
     clear h I M z F G J N hx ab ae ac aq ah;go_wp2_with fail;refine O.out.mono ?_;rintro e W ⟨rfl,rfl⟩;go_wp2_with fail;refine(ap.out _).mono ?_;rintro e W ⟨rfl,rfl⟩;go_wp2_with fail;go_roundw;case rel=>exact⟨k+n,by go_num,by omega,K.out,trivial⟩
     case measure=>simp[intOf];omega
   ·rw[AP X]at h;have aM:((c.toNat:Int)==35)=false:=Aw (d:=35) X;have K:=Z (show R=k by rw[<-L.out,h];omega);clear h I M z F G J X;go_wp2_with fail;refine O.out.mono ?_;rintro e W ⟨rfl,rfl⟩;go_wp2_with fail;go_ret;exact⟨by rw[K.out];rfl,rfl⟩
  ·have ay:decide ((k:Int)<(l.length:Int))=false:=As (by omega);have K:=Z (show R=k by rw[<-L.out,IG (by omega),EC];omega);go_wp2_with fail;go_ret;exact⟨by rw[K.out];rfl,rfl⟩
end Go.Proofs.YtdhfhphbkfgamaaGreat.Lx
