/- PrintTells: a part of its proof. -/
import Derived.Test.YtdhfhphbkfgamaaGreatKc
import Derived.Test.YtdhfhphbkfgamaaGreatXn
set_option maxRecDepth 100000
set_option maxHeartbeats 64000000
namespace Go.Proofs.YtdhfhphbkfgamaaGreat.Lx
section
open Go.RowKit
theorem Pb (w:World):Calls Tryz.prog 86 #[] w fun e w'=>e=.returned (.slice (some ⟨w.heap.size,0,none⟩) 16 16)∧w'=w.alloc (.cells (Dr.map sv).toArray 9):=by
 obtain⟨h,z⟩: ∃h,w.alloc (.cells (Dr.map sv).toArray 9)=h:=⟨_,rfl⟩;rw[z];have F:=Z z;clear z;go_enter Tryz.func86,Tryz.ntmps86;go_wp2_with (first|(refine Gc (o:=⟨some 1,_,_,_,_,_⟩) (.slice (some ⟨w.heap.size,0,none⟩) 16 16) h rfl (by rw[←F.out];kernel_rfl) ?_));go_ret;exact⟨rfl,rfl⟩
end
section
open Go.RowKit
def Th (l:List UInt8):Nat→List AX→Prop
 |_,[]=>True
 |e,x::r=>x.a=e+A4 (l.drop e)∧x.a+x.t.length≤l.length∧(l.drop x.a).take x.t.length=x.t∧(x.k=4↔r=[])∧(x.k=4→x.t=[]∧x.a=l.length)∧Th l (x.a+x.t.length) r
theorem M1 {l:List UInt8} {k A:Nat} (hk:k<A) (h:k+A4 (l.drop k)=A): ∃h:k<l.length,A≤l.length∧
  (((l[k]=32∨l[k]=9)∧k+1+A4 (l.drop (k+1))=A)∨
  (l[k]=92∧k+1<A∧(∃z:k+1<l.length,l[k+1]=10)∧k+2+A4 (l.drop (k+2))=A)∨
  (l[k]=35∧k+((l.drop k).takeWhile (· !=10)).length=A∧A4 (l.drop A)=0)):=by
 have K:=GR _ (l.drop k) rfl;rw[Dq]at K;have F:k<l.length:=(by omega);refine⟨F,by omega,?_⟩;have hid:=Dl _ (l.drop k) rfl;rw[List.drop_drop,h]at hid;rw[CC F,Cp]at h;split at h
 ·rename_i G;exact .inl ⟨G,by omega⟩
 ·split at h
  ·rename_i z;have L:=take_len z;simp at L;have J:k+1<l.length:=(by omega);rw[CC J]at z h;injection z with M I;injection I with I _;rw[List.drop_succ_cons,List.drop_zero]at h;exact .inr (.inl ⟨M,by omega,⟨J,I⟩,by rw[show k+1+1=k+2 from rfl]at h;omega⟩)
  ·split at h
   ·rename_i G;rw[←CC F]at h;exact .inr (.inr ⟨G,h,hid⟩)
   ·omega
theorem QS {l:List UInt8} {k A:Nat} (h:k+((l.drop k).takeWhile (· !=10)).length=A) (hk:k<A): ∃h:k<l.length,l[k]≠10∧k+1+((l.drop (k+1)).takeWhile (· !=10)).length=A:=by
 have z:k<l.length:=by
  by_cases G:k<l.length
  ·exact G
  ·rw[List.drop_eq_nil_of_le (by omega)]at h;simp at h;omega
 refine⟨z,?_⟩;rw[CC z,List.takeWhile_cons]at h;split at h
 ·rename_i F;rw[BP]at h;refine⟨fun e=>?_,by omega⟩;rw[e]at F;cases F
 ·simp at h;omega
end
section
open Go.RowKit
theorem V0 (t:List UInt8) (w:World) (hs:t.length≤1000000):Calls Tryz.prog 67 #[sv t] w fun e w'=>e=.returned (sv (DT t))∧w.grownBy w' none:=by
 have ae:=Z (fun w'=>Pb w');have ak:=sz t;unfold sv;go_enter Tryz.func67,Tryz.ntmps67;go_wp2_with fail;refine(ae.out _).mono ?_;rintro e I ⟨rfl,J⟩;have aa:=Z (show Y I w.heap.size 9 (Dr.map sv).toArray by rw[J];exact Y.new w 9 _);have ab:=Z (show w.grownBy I none by rw[J];exact AF (AB w none) _);have lb:=Y.lt aa.out;clear J;go_wp2_with fail;go_loopw [4] (fun K wr=> ∃m:Nat,K=.int .i64 m∧m≤16∧(∀j (h:j<Dr.length),j<m→CU t Dr[j]=false)∧wr=I) (fun K _=>16-(intOf K).toNat);case atStart=>exact⟨0,rfl,by omega,fun j _ h=>Ai h (Nat.not_lt_zero _),rfl⟩
 case round=>
  obtain⟨m,rfl,al,ac,rfl⟩:=hrel;have L:=Z ac;clear ac;by_cases af:m<16
  ·have M:m<Dr.length:=af;have am:decide ((m:Int)<16)=true:=At (by omega);have an:(0:Int)≤m∧(m:Int)<16:=(by omega);have ag:wr.cell? ⟨w.heap.size,m,none⟩=some (.string ⟨(Dr[m]).toArray⟩):=by
    rw[Y.cell aa.out,List.getElem?_toArray,List.getElem?_map,List.getElem?_eq_getElem M];rfl
   have ad:=(IQ _ (List.getElem_mem M)).2;have N:=fun w'=>Aa t Dr[m] w' (by omega) (by omega)
   have G:=fun h=>KT M L.out h
   have z: ∀w',Calls Tryz.prog 66 #[.string ⟨t.toArray⟩,.string ⟨(Dr[m]).toArray⟩] w' fun e O=>e=.returned (.bool (CU t Dr[m]))∧O=w':=N
   obtain⟨s,hs⟩: ∃s,Dr[m]=s:=⟨_,rfl⟩;rw[hs]at ag z G;have ah:=Z hs;cases F:CU t s with
   |true=>
    rw[F]at z;have W:=Z (G F);have X:=Z z;clear G N z F hs ad;go_wp2_with fail;refine(X.out _).mono ?_;rintro e O ⟨rfl,rfl⟩;go_wp2_with fail;go_ret;exact⟨by rw[W.out];rfl,ab.out⟩
   |false=>
    rw[F]at z;have ai:=Z F;have X:=Z z;clear G N z F hs ad;go_wp2_with fail;refine(X.out _).mono ?_;rintro e O ⟨rfl,rfl⟩;go_wp2_with fail;go_roundw;case rel=>
     refine⟨m+1,by go_num,by omega,fun j h ao=>?_,trivial⟩;by_cases aj:j<m
     ·exact L.out j h aj
     ·obtain rfl:j=m:=by omega
      rw[ah.out];exact ai.out
    case measure=>simp[intOf];omega
  ·obtain rfl:m=16:=by omega
   have W:=Z (La (fun j h=>L.out j h h));go_wp2_with fail;go_ret;exact⟨by rw[W.out];rfl,ab.out⟩
theorem Z2n {P:Prop} (h:P:=by
 go_enter Tryz.func87,Tryz.ntmps87;go_wp2_with fail;go_ret;exact⟨rfl,rfl⟩):P:=h
theorem UF (c:UInt8) (w:World):Calls Tryz.prog 87 #[.int .u8 c.toNat] w fun e w'=>e=.returned (.bool (C3 DA c))∧w'=w:=by
 by_cases z:c=32
 ·subst z;rw[show C3 DA 32=true from by decide];exact Z2n
 have aa:((c.toNat:Int)==32)=false:=Au (d:=32) z;by_cases F:c=9
 ·subst F;rw[show C3 DA 9=true from by decide];exact Z2n
 have ab:((c.toNat:Int)==9)=false:=Au (d:=9) F;by_cases G:c=10
 ·subst G;rw[show C3 DA 10=true from by decide];exact Z2n
 have ac:((c.toNat:Int)==10)=false:=Au (d:=10) G;by_cases I:c=124
 ·subst I;rw[show C3 DA 124=true from by decide];exact Z2n
 have ad:((c.toNat:Int)==124)=false:=Au (d:=124) I;by_cases J:c=38
 ·subst J;rw[show C3 DA 38=true from by decide];exact Z2n
 have ae:((c.toNat:Int)==38)=false:=Au (d:=38) J;by_cases K:c=59
 ·subst K;rw[show C3 DA 59=true from by decide];exact Z2n
 have af:((c.toNat:Int)==59)=false:=Au (d:=59) K;by_cases L:c=60
 ·subst L;rw[show C3 DA 60=true from by decide];exact Z2n
 have ag:((c.toNat:Int)==60)=false:=Au (d:=60) L;by_cases M:c=62
 ·subst M;rw[show C3 DA 62=true from by decide];exact Z2n
 have ah:((c.toNat:Int)==62)=false:=Au (d:=62) M;by_cases N:c=40
 ·subst N;rw[show C3 DA 40=true from by decide];exact Z2n
 have ai:((c.toNat:Int)==40)=false:=Au (d:=40) N;by_cases O:c=41
 ·subst O;rw[show C3 DA 41=true from by decide];exact Z2n
 have aj:((c.toNat:Int)==41)=false:=Au (d:=41) O;have W:C3 DA c=false:=by
  cases X:C3 DA c with
  |false=>rfl
  |true=>
   rcases Oh X with h|h|h|h|h|h|h|h|h|h
   ·exact Ai h z
   ·exact Ai h F
   ·exact Ai h G
   ·exact Ai h I
   ·exact Ai h J
   ·exact Ai h K
   ·exact Ai h L
   ·exact Ai h M
   ·exact Ai h N
   ·exact Ai h O
 rw[W];clear W z F G I J K L M N O;exact Z2n
theorem LD {w:World} {b:Nat} {x y F u:Value} {z:Array Value} (h:Y w b 108 #[x,y,F,u]) (G:z.getD 4 undef=.pointer (some ⟨b,0,none⟩)):(results Tryz.f68 z).run Tryz.prog w=.ok (.agg #[x,y,F,u]) w:=by
 have I:=Y.cell h 0;have J:=Y.cell h 1;have K:=Y.cell h 2;have L:=Y.cell h 3;have M:z[4]?.getD undef=.pointer (some ⟨b,0,none⟩):=(by simpa using G);simp[results,Tryz.results68,go_sem,M,I,J,K,L]
theorem Ut (t:List UInt8) (G:Nat) (w:World) (hs:t.length≤1000000) (aK:G+t.length≤2000000):Calls Tryz.prog 68 #[sv t,.int .i64 G] w fun e w'=>e=.returned (BM G (De t))∧w.grownBy w' none:=by
 have aL:=sz t;have aM: ∀n,(ByteArray.mk t.toArray).extract n t.length=⟨(t.drop n).toArray⟩:=fun n=>GK t n _ rfl
 obtain⟨R,X⟩: ∃R,De t=R:=⟨_,rfl⟩;rw[X];have ah:=Z X;have ai:=Z (fun k w' (hk:k<t.length)=>VA 25 (t.drop k) false 0 (G+k) w' (by omega) (by rw[Dq];omega) (by rw[Dq];omega));have aw:=Z (fun c w'=>UF c w');clear X;unfold sv at ai⊢;go_enter Tryz.func68,Tryz.ntmps68;go_wp2_with fail;go_loopw [5] (fun aa wr=> ∃k:Nat,aa=.int .i64 k∧k≤t.length∧Y wr w.heap.size 108 #[.int .i64 0,.bool false,.bool false,.int .i64 0]∧w.grownBy wr none∧(De (t.drop k)).add k=R) (fun aa _=>t.length+1-(intOf aa).toNat);case atStart=>exact⟨0,rfl,DM _,Y.new w 108 _,AF (AB w none) _,by rw[List.drop_zero,Rs.add_zero,ah.out]⟩
 case round=>
  obtain⟨k,rfl,hk,z,aj,ak⟩:=hrel;have ab:=Z z;have ac:=Z aj;have I:=Z ak;have ax:=Y.cell z 0;have ay:=Y.cell z 1;have az:=Y.cell z 2;have aA:=Y.cell z 3;have aB:=Y.frozen z 0;have aC:=Y.frozen z 1;have aD:=Y.frozen z 2;have z3:=Y.frozen z 3;have lb:=Y.lt z;clear z aj ak ah;by_cases ad:k<t.length
  ·have aE:decide ((k:Int)<(t.length:Int))=true:=At (by omega);have aF:=BC t k ad;have aN:(0:Int)≤k∧(k:Int)<(t.length:Int):=(by omega);have aO:(0:Int)≤k∧(k:Int)≤(t.length:Int):=(by omega);have L:=CC ad;obtain⟨c,ae⟩: ∃c,t[k]=c:=⟨_,rfl⟩;rw[ae]at aF L;have F:=Et c (t.drop (k+1));rw[←L]at F;have J:=fun w'=>aw.out c w'
   cases M:C3 DA c with
   |true=>
    rw[M]at J F;rw[Ah rfl]at F;have af:=Z J;have K:=Z F;clear J F L ae M;go_wp2_with fail;refine(af.out _).mono ?_;rintro e aG ⟨rfl,rfl⟩;go_wp2_with fail;exact bodyPost_ret (LD (Gq ab.out _ _ _ _) rfl) rfl ⟨by rw[←I.out,K.out];simp[BM,CL,Rs.add],Ma ac.out (BL _) _ _ _ _⟩
   |false=>
    rw[M]at J F;rw[U Bool.false_ne_true]at F;have af:=Z J;have al:=ai.out k;obtain⟨P,N⟩: ∃P,Ac 25 false (t.drop k)=P:=⟨_,rfl⟩;rw[N]at F;have am: ∀w',Calls Tryz.prog 88 #[.string ⟨(t.drop k).toArray⟩,.bool false,.int .i64 0,.int .i64 ((G:Int)+k)] w' fun e aH=>e=.returned (BM ((G:Int)+k) P)∧w'.grownBy aH none:=fun w'=>by
     have:=al w' ad;rw[N]at this;rwa [show(((G+k:Nat)):Int)=(G:Int)+k by omega]at this
    have an: ∀n,P=.ok n→k+n≤t.length:=fun n ao=>by
     have:=I9 25 false (t.drop k) n (by rw[N,ao]);rw[Dq]at this;omega
    have K:=Z F;have aI:=Z am;clear J F L ae M al am N;go_wp2_with fail;refine(af.out _).mono ?_;rintro e aP ⟨rfl,rfl⟩;go_wp2_with fail;refine(aI.out _).mono ?_;rintro e aG ⟨rfl,ag⟩;have h:=Z (Y.grown ab.out ag (by simp));have O:=Z (AI ac.out ag);have ax:=Y.cell h.out 0;have ay:=Y.cell h.out 1;have az:=Y.cell h.out 2;have aA:=Y.cell h.out 3;have aB:=Y.frozen h.out 0;have aC:=Y.frozen h.out 1;have aD:=Y.frozen h.out 2;have z3:=Y.frozen h.out 3;have lb:=Y.lt h.out;clear ag;unfold BM;cases P with
    |more=>
     unfold CL;go_wp2_with fail;exact bodyPost_ret (LD (Y.alloc (Gq h.out _ _ _ _) _) rfl) rfl ⟨by rw[←I.out,K.out];simp[BM,CL,Rs.add],AF (Ma O.out (BL _) _ _ _ _) _⟩
    |deep a=>
     unfold CL;go_wp2_with fail;exact bodyPost_ret (LD (Y.alloc (Gq h.out _ _ _ _) _) rfl) rfl ⟨by rw[←I.out,K.out];simp[BM,CL,Rs.add];omega,AF (Ma O.out (BL _) _ _ _ _) _⟩
    |ok n=>
     unfold CL;have ao:=an n rfl;have ap:(t.drop (k+1)).drop (n-1)=t.drop (k+max n 1):=(by rw[List.drop_drop];congr 1;omega);have W:=K.out;simp only[ap]at W;obtain⟨m,aq⟩: ∃m,max n 1=m:=⟨_,rfl⟩;rw[aq]at W;have ar:=Z W;clear W ap an;have au:(n=0∧m=1)∨(((n:Int)==0)=false∧ ¬n=0∧m=n):=by
      by_cases e:n=0
      ·exact .inl ⟨e,by omega⟩
      ·exact .inr ⟨by rw[beq_eq_false_iff_ne];omega,e,by omega⟩
     clear aq;rcases au with⟨rfl,rfl⟩|⟨au,aQ,rfl⟩
     ·go_wp2_with fail;go_roundw;case rel=>exact⟨k+1,by go_num,by omega,Y.alloc h.out _,AF O.out _,by rw[←I.out,ar.out,Rs.add_add]⟩
      case measure=>simp[intOf];omega
     ·go_wp2_with fail;go_roundw;case rel=>exact⟨k+m,by go_num,by omega,Y.alloc h.out _,AF O.out _,by rw[←I.out,ar.out,Rs.add_add]⟩
      case measure=>simp[intOf];omega
  ·have aE:decide ((k:Int)<(t.length:Int))=false:=Aq (by omega);have aJ:R=.ok k:=by
    have:=I.out;rw[List.drop_eq_nil_of_le (by omega),Fi]at this;rw[←this];rfl
   subst aJ;go_wp2_with fail;exact bodyPost_ret (LD (Gq ab.out _ _ _ _) rfl) rfl ⟨by simp[BM,CL],Ma ac.out (BL _) _ _ _ _⟩
end
end Go.Proofs.YtdhfhphbkfgamaaGreat.Lx
