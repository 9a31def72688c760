/- A part. -/
import Derived.Test.YtdhfhphbkfgamaaGreatKc
import Derived.Test.YtdhfhphbkfgamaaGreatXn
set_option maxRecDepth 100000
set_option linter.all false
set_option maxHeartbeats 0
namespace Go.Proofs.YtdhfhphbkfgamaaGreat.Lx
open Go.RowKit Proofs.Tryz
theorem Qq(w:World):Calls prog 86 #[] w fun e w'=>e=.returned (.slice (some ⟨w.heap.size,0,none⟩) 16 16)/\w'=w.alloc (.cells (D9.map sv).toArray 9):=by
 obtain⟨z,h⟩:=U (w.alloc (.cells (D9.map sv).toArray 9));rw[h];have F:=Z h;clear h;go_enter func86,ntmps86;go_wp2_with (first|(refine Hd (o:=⟨some 1,_,_,_,_,_⟩) (.slice (some ⟨w.heap.size,0,none⟩) 16 16) z rfl (by rw[<-F.out];kernel_rfl) ?_));go_ret;exact⟨rfl,rfl⟩
def UM(l:List UInt8):Nat->List AY->Prop
 |_,[]=>True
 |e,x::r=>x.a=e+A6 (l.drop e)/\x.a+x.t.length<=l.length/\(l.drop x.a).take x.t.length=x.t/\(x.k=4↔r=[])/\(x.k=4->x.t=[]/\x.a=l.length)/\UM l (x.a+x.t.length) r
theorem Nz{l:List UInt8}{k A:Nat}(hk:k<A)(h:k+A6 (l.drop k)=A):∃h:k<l.length,A<=l.length/\
  (((l[k]=32\/l[k]=9)/\k+1+A6 (l.drop (k+1))=A)\/
  (l[k]=92/\k+1<A/\(∃z:k+1<l.length,l[k+1]=10)/\k+2+A6 (l.drop (k+2))=A)\/
  (l[k]=35/\k+((l.drop k).takeWhile (· !=10)).length=A/\A6 (l.drop A)=0)):=by
 have K:=Gt _ (l.drop k) rfl;rw[D8]at K;have F:k<l.length:=(by omega);refine⟨F,by omega,?_⟩;have hid:=D5 _ (l.drop k) rfl;rw[List.drop_drop,h]at hid;rw[CF F,Cu]at h;split at h
 ·rename_i G;exact .inl ⟨G,by omega⟩
 ·split at h
  ·rename_i z;have L:=take_len z;simp at L;have J:k+1<l.length:=(by omega);rw[CF J]at z h;injection z with M I;injection I with I _;rw[List.drop_succ_cons,List.drop_zero]at h;exact .inr (.inl ⟨M,by omega,⟨J,I⟩,by rw[show k+1+1=k+2 from rfl]at h;omega⟩)
  ·split at h
   ·rename_i G;rw[<-CF F]at h;exact .inr (.inr ⟨G,h,hid⟩)
   ·omega
theorem Q8{l:List UInt8}{k A:Nat}(h:k+((l.drop k).takeWhile (· !=10)).length=A)(hk:k<A):∃h:k<l.length,l[k]≠10/\k+1+((l.drop (k+1)).takeWhile (· !=10)).length=A:=by
 have z:k<l.length:=by
  by_cases G:k<l.length
  ·exact G
  ·rw[IG (by omega)]at h;simp at h;omega
 refine⟨z,?_⟩;rw[CF z,List.takeWhile_cons]at h;split at h
 ·rename_i F;rw[BR]at h;refine⟨fun e=>?_,by omega⟩;rw[e]at F;cases F
 ·simp at h;omega
theorem WX(t:List UInt8)(w:World)(hs:t.length<=1000000):Calls prog 67 #[sv t] w fun e w'=>e=.returned (sv (De t))/\w.grownBy w' none:=by
 have ae:=Z (fun w'=>Qq w');have ak:=sz t;unfold sv;go_enter func67,ntmps67;go_wp2_with fail;refine(ae.out _).mono ?_;rintro e I ⟨rfl,J⟩;have aa:=Z (show Y I w.heap.size 9 (D9.map sv).toArray by rw[J];exact Y.new w 9 _);have ab:=Z (show w.grownBy I none by rw[J];exact AF (AB w none) _);have lb:=Y.lt aa.out;clear J;go_wp2_with fail;go_loopw [4] (fun K wr=> ∃m:Nat,K=.int .i64 m/\m<=16/\(∀j (h:j<D9.length),j<m->Ca t D9[j]=false)/\wr=I) (fun K _=>16-(intOf K).toNat);case atStart=>exact⟨0,rfl,by omega,fun j _ h=>Aj h (Nat.not_lt_zero _),rfl⟩
 case round=>
  obtain⟨m,rfl,al,ac,rfl⟩:=hrel;have L:=Z ac;clear ac;by_cases af:m<16
  ·have M:m<D9.length:=af;have am:decide ((m:Int)<16)=true:=Au (by omega);have an:(0:Int)<=m/\(m:Int)<16:=(by omega);have ag:wr.cell? ⟨w.heap.size,m,none⟩=some (.string ⟨(D9[m]).toArray⟩):=by
    rw[Y.cell aa.out,List.getElem?_toArray,II,CZ M];rfl
   have ad:=(Ix _ (Cp M)).2;have N:=fun w'=>Ab t D9[m] w' (by omega) (by omega)
   have G:=fun h=>LP M L.out h
   have z:∀w',Calls prog 66 #[.string ⟨t.toArray⟩,.string ⟨(D9[m]).toArray⟩] w' fun e O=>e=.returned (.bool (Ca t D9[m]))/\O=w':=N
   obtain⟨s,hs⟩:=U (D9[m]);rw[hs]at ag z G;have ah:=Z hs;cases F:Ca t s with
   |true=>
    rw[F]at z;have W:=Z (G F);have X:=Z z;clear G N z F hs ad;go_wp2_with fail;refine(X.out _).mono ?_;rintro e O ⟨rfl,rfl⟩;go_wp2_with fail;go_ret;exact⟨by rw[W.out];rfl,ab.out⟩
   |false=>
    rw[F]at z;have ai:=Z F;have X:=Z z;clear G N z F hs ad;go_wp2_with fail;refine(X.out _).mono ?_;rintro e O ⟨rfl,rfl⟩;go_wp2_with fail;go_roundw;case rel=>
     refine⟨m+1,by go_num,by omega,fun j h ao=>?_,trivial⟩;by_cases aj:j<m
     ·exact L.out j h aj
     ·obtain rfl:j=m:=by omega
      rw[ah.out];exact ai.out
    case measure=>simp[intOf];omega
  ·obtain rfl:m=16:=by omega
   have W:=Z (MB (fun j h=>L.out j h h));go_wp2_with fail;go_ret;exact⟨by rw[W.out];rfl,ab.out⟩
theorem UT(c:UInt8)(w:World):Calls prog 87 #[.int .u8 c.toNat] w fun e w'=>e=.returned (.bool (DB DF c))/\w'=w:=by
 by_cases z:c=32
 ·subst z;rw[show DB DF 32=true from by decide];go_enter func87,ntmps87;go_wp2_with fail;go_ret;exact⟨rfl,rfl⟩
 have aa:((c.toNat:Int)==32)=false:=Aw (d:=32) z;by_cases F:c=9
 ·subst F;rw[show DB DF 9=true from by decide];go_enter func87,ntmps87;go_wp2_with fail;go_ret;exact⟨rfl,rfl⟩
 have ab:((c.toNat:Int)==9)=false:=Aw (d:=9) F;by_cases G:c=10
 ·subst G;rw[show DB DF 10=true from by decide];go_enter func87,ntmps87;go_wp2_with fail;go_ret;exact⟨rfl,rfl⟩
 have ac:((c.toNat:Int)==10)=false:=Aw (d:=10) G;by_cases I:c=124
 ·subst I;rw[show DB DF 124=true from by decide];go_enter func87,ntmps87;go_wp2_with fail;go_ret;exact⟨rfl,rfl⟩
 have ad:((c.toNat:Int)==124)=false:=Aw (d:=124) I;by_cases J:c=38
 ·subst J;rw[show DB DF 38=true from by decide];go_enter func87,ntmps87;go_wp2_with fail;go_ret;exact⟨rfl,rfl⟩
 have ae:((c.toNat:Int)==38)=false:=Aw (d:=38) J;by_cases K:c=59
 ·subst K;rw[show DB DF 59=true from by decide];go_enter func87,ntmps87;go_wp2_with fail;go_ret;exact⟨rfl,rfl⟩
 have af:((c.toNat:Int)==59)=false:=Aw (d:=59) K;by_cases L:c=60
 ·subst L;rw[show DB DF 60=true from by decide];go_enter func87,ntmps87;go_wp2_with fail;go_ret;exact⟨rfl,rfl⟩
 have ag:((c.toNat:Int)==60)=false:=Aw (d:=60) L;by_cases M:c=62
 ·subst M;rw[show DB DF 62=true from by decide];go_enter func87,ntmps87;go_wp2_with fail;go_ret;exact⟨rfl,rfl⟩
 have ah:((c.toNat:Int)==62)=false:=Aw (d:=62) M;by_cases N:c=40
 ·subst N;rw[show DB DF 40=true from by decide];go_enter func87,ntmps87;go_wp2_with fail;go_ret;exact⟨rfl,rfl⟩
 have ai:((c.toNat:Int)==40)=false:=Aw (d:=40) N;by_cases O:c=41
 ·subst O;rw[show DB DF 41=true from by decide];go_enter func87,ntmps87;go_wp2_with fail;go_ret;exact⟨rfl,rfl⟩
 have aj:((c.toNat:Int)==41)=false:=Aw (d:=41) O;have W:DB DF c=false:=by
  cases X:DB DF c with
  |false=>rfl
  |true=>
   rcases PM X with h|h|h|h|h|h|h|h|h|h
   ·exact Aj h z
   ·exact Aj h F
   ·exact Aj h G
   ·exact Aj h I
   ·exact Aj h J
   ·exact Aj h K
   ·exact Aj h L
   ·exact Aj h M
   ·exact Aj h N
   ·exact Aj h O
 rw[W];clear W z F G I J K L M N O;go_enter func87,ntmps87;go_wp2_with fail;go_ret;exact⟨rfl,rfl⟩
theorem Lh{w:World}{b:Nat}{x y F u:Value}{z:Array Value}(h:Y w b 108 #[x,y,F,u])(t4:z.getD 4 undef=.pointer (some ⟨b,0,none⟩)):(results Tryz.f68 z).run prog w=.ok (.agg #[x,y,F,u]) w:=by
 have G:=Y.cell h 0;have I:=Y.cell h 1;have J:=Y.cell h 2;have K:=Y.cell h 3;have L:z[4]?.getD undef=.pointer (some ⟨b,0,none⟩):=(by simpa using t4);simp[results,Tryz.results68,go_sem,L,G,I,J,K]
theorem V9(t:List UInt8)(G:Nat)(w:World)(hs:t.length<=1000000)(aG:G+t.length<=2000000):Calls prog 68 #[sv t,.int .i64 G] w fun e w'=>e=.returned (BO G (Dn t))/\w.grownBy w' none:=by
 have aH:=sz t;have aI:∀n,(ByteArray.mk t.toArray).extract n t.length=⟨(t.drop n).toArray⟩:=fun n=>Gf t n _ rfl
 obtain⟨R,X⟩:=U (Dn t);rw[X];have ah:=Z X;have ai:=Z (fun k w' (hk:k<t.length)=>WY 25 (t.drop k) false 0 (G+k) w' (by omega) (by rw[D8];omega) (by rw[D8];omega));have aw:=Z (fun c w'=>UT c w');clear X;unfold sv at ai⊢;go_enter func68,ntmps68;go_wp2_with fail;go_loopw [5] (fun aa wr=> ∃k:Nat,aa=.int .i64 k/\k<=t.length/\Y wr w.heap.size 108 #[.int .i64 0,.bool false,.bool false,.int .i64 0]/\w.grownBy wr none/\(Dn (t.drop k)).add k=R) (fun aa _=>t.length+1-(intOf aa).toNat);case atStart=>exact⟨0,rfl,DD _,Y.new w 108 _,AF (AB w none) _,by rw[List.drop_zero,Rs.add_zero,ah.out]⟩
 case round=>
  obtain⟨k,rfl,hk,z,aj,ak⟩:=hrel;have ab:=Z z;have ac:=Z aj;have I:=Z ak;have d0:=Y.cell z 0;have d1:=Y.cell z 1;have d2:=Y.cell z 2;have d3:=Y.cell z 3;have ax:=Y.frozen z 0;have ay:=Y.frozen z 1;have az:=Y.frozen z 2;have z3:=Y.frozen z 3;have lb:=Y.lt z;clear z aj ak ah;by_cases ad:k<t.length
  ·have aA:decide ((k:Int)<(t.length:Int))=true:=Au (by omega);have aB:=BE t k ad;have aJ:(0:Int)<=k/\(k:Int)<(t.length:Int):=(by omega);have aK:(0:Int)<=k/\(k:Int)<=(t.length:Int):=(by omega);have L:=CF ad;obtain⟨c,ae⟩:=U (t[k]);rw[ae]at aB L;have F:=FK c (t.drop (k+1));rw[<-L]at F;have J:=fun w'=>aw.out c w'
   cases M:DB DF c with
   |true=>
    rw[M]at J F;rw[Ai rfl]at F;have af:=Z J;have K:=Z F;clear J F L ae M;go_wp2_with fail;refine(af.out _).mono ?_;rintro e aC ⟨rfl,rfl⟩;go_wp2_with fail;exact bodyPost_ret (Lh (IF ab.out _ _ _ _) rfl) rfl ⟨by rw[<-I.out,K.out];simp[BO,CP,Rs.add],M5 ac.out (BN _) _ _ _ _⟩
   |false=>
    rw[M]at J F;rw[AP Bool.false_ne_true]at F;have af:=Z J;have al:=ai.out k;obtain⟨P,N⟩:=U (Ad 25 false (t.drop k));rw[N]at F;have am:∀w',Calls prog 88 #[.string ⟨(t.drop k).toArray⟩,.bool false,.int .i64 0,.int .i64 ((G:Int)+k)] w' fun e aD=>e=.returned (BO ((G:Int)+k) P)/\w'.grownBy aD none:=fun w'=>by
     have:=al w' ad;rw[N]at this;rwa [show(((G+k:Nat)):Int)=(G:Int)+k by omega]at this
    have an:∀n,P=.ok n->k+n<=t.length:=fun n ao=>by
     have:=JQ 25 false (t.drop k) n (by rw[N,ao]);rw[D8]at this;omega
    have K:=Z F;have aE:=Z am;clear J F L ae M al am N;go_wp2_with fail;refine(af.out _).mono ?_;rintro e aL ⟨rfl,rfl⟩;go_wp2_with fail;refine(aE.out _).mono ?_;rintro e aC ⟨rfl,ag⟩;have h:=Z (Y.grown ab.out ag (by simp));have O:=Z (AI ac.out ag);have d0:=Y.cell h.out 0;have d1:=Y.cell h.out 1;have d2:=Y.cell h.out 2;have d3:=Y.cell h.out 3;have ax:=Y.frozen h.out 0;have ay:=Y.frozen h.out 1;have az:=Y.frozen h.out 2;have z3:=Y.frozen h.out 3;have lb:=Y.lt h.out;clear ag;unfold BO;cases P with
    |more=>
     unfold CP;go_wp2_with fail;exact bodyPost_ret (Lh (Y.alloc (IF h.out _ _ _ _) _) rfl) rfl ⟨by rw[<-I.out,K.out];simp[BO,CP,Rs.add],AF (M5 O.out (BN _) _ _ _ _) _⟩
    |deep a=>
     unfold CP;go_wp2_with fail;exact bodyPost_ret (Lh (Y.alloc (IF h.out _ _ _ _) _) rfl) rfl ⟨by rw[<-I.out,K.out];simp[BO,CP,Rs.add];omega,AF (M5 O.out (BN _) _ _ _ _) _⟩
    |ok n=>
     unfold CP;have ao:=an n rfl;have ap:(t.drop (k+1)).drop (n-1)=t.drop (k+max n 1):=(by rw[List.drop_drop];congr 1;omega);have W:=K.out;simp only[ap]at W;obtain⟨m,aq⟩:=U (max n 1);rw[aq]at W;have ar:=Z W;clear W ap an;have au:(n=0/\m=1)\/(((n:Int)==0)=false/\ ¬n=0/\m=n):=by
      by_cases e:n=0
      ·exact .inl ⟨e,by omega⟩
      ·exact .inr ⟨by rw[A4];omega,e,by omega⟩
     clear aq;rcases au with⟨rfl,rfl⟩|⟨au,aM,rfl⟩
     ·go_wp2_with fail;go_roundw;case rel=>exact⟨k+1,by go_num,by omega,Y.alloc h.out _,AF O.out _,by rw[<-I.out,ar.out,Rs.add_add]⟩
      case measure=>simp[intOf];omega
     ·go_wp2_with fail;go_roundw;case rel=>exact⟨k+m,by go_num,by omega,Y.alloc h.out _,AF O.out _,by rw[<-I.out,ar.out,Rs.add_add]⟩
      case measure=>simp[intOf];omega
  ·have aA:decide ((k:Int)<(t.length:Int))=false:=As (by omega);have aF:R=.ok k:=by
    have:=I.out;rw[IG (by omega),GG]at this;rw[<-this];rfl
   subst aF;go_wp2_with fail;exact bodyPost_ret (Lh (IF ab.out _ _ _ _) rfl) rfl ⟨by simp[BO,CP],M5 ac.out (BN _) _ _ _ _⟩
end Go.Proofs.YtdhfhphbkfgamaaGreat.Lx
