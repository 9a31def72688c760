/- A part. -/
import Derived.Test.YtdhfhphbkfgamaaGreatXe
set_option maxRecDepth 100000
set_option linter.all false
set_option maxHeartbeats 0
namespace Go.Proofs.YtdhfhphbkfgamaaGreat.Lx
open Go.RowKit Proofs.Tryz
theorem Ab(l m:List UInt8)(w:World)(I:m.length<=1000)(J:l.length<=9223372036854775807):
  Calls prog 66 #[sv l,sv m] w fun e w'=>e=.returned (.bool (decide (l.take m.length=m)))/\w'=w:=by
 unfold sv;have h:=sz l;have z:=sz m;by_cases K:m.length<=l.length
 ·have G:decide (((ByteArray.mk m.toArray).size:Int)<=((ByteArray.mk l.toArray).size:Int))=true:=(by rw[h,z];simp;omega);have hx:=Jl l m.length;have L:=Ii (l.take m.length) m;have M:(0:Int)<=((ByteArray.mk m.toArray).size:Int)/\((ByteArray.mk m.toArray).size:Int)<=((ByteArray.mk l.toArray).size:Int):=(by rw[h,z];omega);have F:decide (l.take m.length=m)=(l.take m.length==m):=(by rw[Bool.eq_iff_iff];simp);rw[F];go_enter func66,ntmps66;go_wp2_with fail;go_ret;exact⟨rfl,rfl⟩
 ·have G:decide (((ByteArray.mk m.toArray).size:Int)<=((ByteArray.mk l.toArray).size:Int))=false:=(by rw[h,z];simp;omega);have F:decide (l.take m.length=m)=false:=by
   rw[Ex];intro e;have:=congrArg List.length e;rw[Fw]at this;omega
  rw[F];go_enter func66,ntmps66;go_wp2_with fail;go_ret;exact⟨rfl,rfl⟩
def CP(h:Int):Rs->List Value
 | .ok n=>[.int .i64 n,.bool false,.bool false,.int .i64 0]
 | .more=>[.int .i64 0,.bool true,.bool false,.int .i64 0]
 | .deep a=>[.int .i64 0,.bool false,.bool true,.int .i64 (h+a)]
def BO(h:Int)(r:Rs):Value:=.agg (CP h r).toArray
theorem IF{w:World}{b:Nat}{x y I u:Value}(J:Y w b 108 #[x,y,I,u])(h z F G:Value):Y ((((w.setCell ⟨b,0,none⟩ h).setCell ⟨b,1,none⟩ z).setCell ⟨b,2,none⟩ F).setCell ⟨b,3,none⟩ G) b 108 #[h,z,F,G]:=(((Y.AW J 0 _).AW 1 _).AW 2 _).AW 3 _
theorem M5{w0 w:World}{b:Nat}(z:w0.grownBy w none)(h:w0.heap.size<=b)(F G I J:Value):w0.grownBy ((((w.setCell ⟨b,0,none⟩ F).setCell ⟨b,1,none⟩ G).setCell ⟨b,2,none⟩ I).setCell ⟨b,3,none⟩ J) none:=Af (Af (Af (Af z (p:=⟨b,0,none⟩) h _) (p:=⟨b,1,none⟩) h _) (p:=⟨b,2,none⟩) h _) (p:=⟨b,3,none⟩) h _
def JB(lv:Nat):Prop:=∀(t:List UInt8) (q:Bool) (deep h:Nat) (w:World),lv+deep=25->t.length<=1000000->h+t.length<=2000000->
 Calls prog 88 #[sv t,.bool q,.int .i64 deep,.int .i64 h] w fun e w'=>e=.returned (BO h (Ad lv q t))/\w.grownBy w' none
def I3(h z:Bool)(c:UInt8):Bool:=(c==39&&!h)||(c==34&&!z)
theorem Iv(lv:Nat)(aK:JB lv)(s:List UInt8)(ac:Nat)(I J:UInt8)(X aa q:Bool)(ao:List UInt8)(deep F:Nat)(w:World)(be:lv+deep+1=25)(hs:s.length<=1000000)(bf:F+s.length<=2000000)(a1:ac<=s.length)
  (aL:∀c,c≠I->DB ao c=I3 X aa c) (ad:(I=41/\J=40)\/(I≠41/\J=0)):
  Calls prog 99 #[sv s,.int .i64 ac,.int .u8 I.toNat,.int .u8 J.toNat,.bool X,.bool aa,.bool q,.int .i64 deep,.int .i64 F] w fun e w'=>e=.returned (BO F ((BL (Ad lv q) I ao 0 (s.drop ac)).add ac))/\w.grownBy w' none:=by
 have bg:=sz s;have bh:∀n,(ByteArray.mk s.toArray).extract n s.length=⟨(s.drop n).toArray⟩:=fun n=>Gf s n _ rfl
 obtain⟨R,ap⟩:=U ((BL (Ad lv q) I ao 0 (s.drop ac)).add ac);rw[ap];have aM:=Z ap;have aN:=Z (fun k w' (hk:k<s.length)=>aK (s.drop k) q (deep+1) (F+k) w' (by omega) (by rw[D8];omega) (by rw[D8];omega));have a2:=Z aL;clear ap aK aL;unfold sv at aN⊢;go_enter func99,ntmps99;go_wp2_with fail;go_loopw [19,20] (fun a3 aA wr=> ∃k o:Nat,a3=.int .i64 o/\aA=.int .i64 k/\k<=s.length/\o<=k/\Y wr w.heap.size 108 #[.int .i64 0,.bool false,.bool false,.int .i64 0]/\w.grownBy wr none/\(BL (Ad lv q) I ao o (s.drop k)).add k=R) (fun _ aA _=>s.length+1-(intOf aA).toNat);case atStart=>exact⟨ac,0,rfl,rfl,a1,DD _,Y.new w 108 _,AF (AB w none) _,aM.out⟩
 case round=>
  obtain⟨k,o,rfl,rfl,hk,bi,K,aO,aP⟩:=hrel;have ak:=Z K;have al:=Z aO;have W:=Z aP;have d0:=Y.cell K 0;have d1:=Y.cell K 1;have d2:=Y.cell K 2;have d3:=Y.cell K 3;have a4:=Y.frozen K 0;have a5:=Y.frozen K 1;have a6:=Y.frozen K 2;have z3:=Y.frozen K 3;have lb:=Y.lt K;clear K aO aP aM;by_cases aB:k<s.length
  ·have a7:decide ((k:Int)<(s.length:Int))=true:=Au (by omega);have a8:=BE s k aB;have bj:(0:Int)<=k/\(k:Int)<(s.length:Int):=(by omega);have bk:(0:Int)<=k/\(k:Int)<=(s.length:Int):=(by omega);have ae:=CF aB;obtain⟨c,am⟩:=U (s[k]);rw[am]at a8 ae;have z:=FV (Ad lv q) I ao o c (s.drop (k+1));rw[<-ae]at z;by_cases N:c=I
   ·have a9:((c.toNat:Int)==(I.toNat:Int))=true:=(by rw[N];simp);rw[Ai N]at z;by_cases a':o=0
    ·subst a';rw[Ai rfl]at z;have L:=Z z;clear z ae am N ad;go_wp2_with fail;have h:=IF ak.out (.int .i64 ((k:Int)+1)) (.bool false) (.bool false) (.int .i64 0);have M:=M5 al.out (BN _) (.int .i64 ((k:Int)+1)) (.bool false) (.bool false) (.int .i64 0);generalize (((wr.setCell ⟨w.heap.size,0,none⟩ (.int .i64 ((k:Int)+1))).setCell ⟨w.heap.size,1,none⟩ (.bool false)).setCell ⟨w.heap.size,2,none⟩ (.bool false)).setCell ⟨w.heap.size,3,none⟩ (.int .i64 0)=aC at h M⊢;have af:=Y.cell h 0;have ag:=Y.cell h 1;have ah:=Y.cell h 2;have ai:=Y.cell h 3;exact bodyPost_ret (v:=.agg #[.int .i64 ((k:Int)+1),.bool false,.bool false,.int .i64 0]) (by simp[results,Tryz.results99,go_sem,af,ag,ah,ai]) rfl ⟨by unfold BO;rw[<-W.out,L.out];simp[Rs.add,CP],M⟩
    ·obtain⟨aq,rfl⟩:∃aq,o=aq+1:=⟨o-1,by omega⟩;rw[AP (by omega)]at z;have L:=Z z;have bl:(((aq:Int)+1)==0)=false:=(by rw[A4];omega);have ba:((aq:Int)+1=0)=False:=(by simp;omega);clear z ae am N ad;go_wp2_with fail;go_roundw;case rel=>exact⟨k+1,aq,by go_num,by go_num,by omega,by omega,ak.out,al.out,by rw[<-W.out,L.out,Rs.add_add];rfl⟩
     case measure=>simp[intOf];omega
   rw[AP N]at z;have a9:((c.toNat:Int)==(I.toNat:Int))=false:=Aw N;by_cases ab:I=41/\c=40
   ·rw[Ai ab]at z;have L:=Z z;have au:J=40:=(by rcases ad with O|O;exact O.2;exact Aj ab.1 O.1);have bm:((J.toNat:Int)==0)=false:=(by rw[au];rfl);have ba:((J.toNat:Int) !=0)=true:=(by rw[au];rfl);have bn:((c.toNat:Int)==(J.toNat:Int))=true:=(by rw[au,ab.2];rfl);clear z ae am N ad au ab;go_wp2_with fail;go_roundw;case rel=>exact⟨k+1,o+1,by go_num,by go_num,by omega,by omega,ak.out,al.out,by rw[<-W.out,L.out,Rs.add_add]⟩
    case measure=>simp[intOf];omega
   rw[AP ab]at z;have aQ:(((J.toNat:Int)==0)=true/\((J.toNat:Int) !=0)=false)\/(((J.toNat:Int)==0)=false/\((J.toNat:Int) !=0)=true/\((c.toNat:Int)==(J.toNat:Int))=false):=by
    rcases ad with⟨O,an⟩|⟨O,an⟩
    ·exact .inr ⟨by rw[an];rfl,by rw[an];rfl,by rw[an];exact Aw (d:=40) (fun e=>ab ⟨O,e⟩)⟩
    ·exact .inl ⟨by rw[an];rfl,by rw[an];rfl⟩
   rw[a2.out c N]at z;have aD:(c=39/\((c.toNat:Int)==39)=true)\/(c=34/\((c.toNat:Int)==39)=false/\((c.toNat:Int)==34)=true)\/(¬c=39/\ ¬c=34/\((c.toNat:Int)==39)=false/\((c.toNat:Int)==34)=false):=by
    by_cases a:c=39
    ·exact .inl ⟨a,by rw[a];rfl⟩
    ·by_cases b:c=34
     ·exact .inr (.inl ⟨b,by rw[b];rfl,by rw[b];rfl⟩)
     ·exact .inr (.inr ⟨a,b,Aw (d:=39) a,Aw (d:=34) b⟩)
   have ar:I3 X aa c=true↔(c=39/\X=false)\/(c=34/\aa=false):=by
    unfold I3;simp
   by_cases aj:I3 X aa c=true
   ·rw[Ai aj]at z;have L:=Z z;have aR:=ar.1 aj;clear z ae am N ad ab aj ar;have aE:(X=false/\((c.toNat:Int)==39)=true)\/(aa=false/\((c.toNat:Int)==39)=false/\((c.toNat:Int)==34)=true):=by
     rcases aR with⟨rfl,O⟩|⟨rfl,O⟩
     ·exact .inl ⟨O,rfl⟩
     ·exact .inr ⟨O,rfl,rfl⟩
    clear aR aD;rcases aE with⟨rfl,aw⟩|⟨rfl,aw,aF⟩<;>rcases aQ with⟨aG,aH⟩|⟨aG,aH,bb⟩
    all_goals
     go_wp2_with fail;go_roundw;case rel=>exact⟨k+1,o,by go_num,by go_num,by omega,by omega,ak.out,al.out,by rw[<-W.out,L.out,Rs.add_add]⟩
     case measure=>simp[intOf];omega
   ·rw[AP aj]at z;have aS:=aN.out k;obtain⟨P,ax⟩:=U (Ad lv q (s.drop k));rw[ax]at z;have aT:∀w',Calls prog 88 #[.string ⟨(s.drop k).toArray⟩,.bool q,.int .i64 ((deep:Int)+1),.int .i64 ((F:Int)+k)] w' fun e bc=>e=.returned (BO ((F:Int)+k) P)/\w'.grownBy bc none:=fun w'=>by
     have:=aS w' aB;rw[ax]at this;rwa [show(((deep+1:Nat)):Int)=(deep:Int)+1 by omega,show(((F+k:Nat)):Int)=(F:Int)+k by omega]at this
    have aU:∀n,P=.ok n->k+n<=s.length:=fun n aV=>by
     have:=JQ lv q (s.drop k) n (by rw[ax,aV]);rw[D8]at this;omega
    have aE:(X=true/\((c.toNat:Int)==39)=true/\((c.toNat:Int)==34)=false)\/(aa=true/\((c.toNat:Int)==39)=false/\((c.toNat:Int)==34)=true)\/(((c.toNat:Int)==39)=false/\((c.toNat:Int)==34)=false):=by
     rcases aD with⟨a,b⟩|⟨a,b,aI⟩|⟨_,_,b,aI⟩
     ·refine .inl ⟨?_,b,by rw[a];rfl⟩;cases X with
      |true=>rfl
      |false=>exact Aj (ar.2 (.inl ⟨a,rfl⟩)) aj
     ·refine .inr (.inl ⟨?_,b,aI⟩);cases aa with
      |true=>rfl
      |false=>exact Aj (ar.2 (.inr ⟨a,rfl⟩)) aj
     ·exact .inr (.inr ⟨b,aI⟩)
    have L:=Z z;have bd:=Z aT;clear z ae am N ad ab aj ar aD aS aT ax;rcases aE with⟨rfl,aw,aF⟩|⟨rfl,aw,aF⟩|⟨aw,aF⟩<;>rcases aQ with⟨aG,aH⟩|⟨aG,aH,bb⟩
    all_goals
     go_wp2_with fail;refine(bd.out _).mono ?_;rintro e aW ⟨rfl,aJ⟩;have G:=Z (Y.grown ak.out aJ (by simp));have ay:=Z (AI al.out aJ);have d0:=Y.cell G.out 0;have d1:=Y.cell G.out 1;have d2:=Y.cell G.out 2;have d3:=Y.cell G.out 3;have a4:=Y.frozen G.out 0;have a5:=Y.frozen G.out 1;have a6:=Y.frozen G.out 2;have z3:=Y.frozen G.out 3;have lb:=Y.lt G.out;clear aJ;unfold BO;cases P with
     |more=>
      unfold CP;go_wp2_with fail;have h:=Y.alloc (IF G.out (.int .i64 0) (.bool true) (.bool false) (.int .i64 0)) (.cells #[.int .i64 0,.bool true,.bool false,.int .i64 0] 108);have M:=AF (M5 ay.out (BN _) (.int .i64 0) (.bool true) (.bool false) (.int .i64 0)) (.cells #[.int .i64 0,.bool true,.bool false,.int .i64 0] 108);generalize ((((aW.setCell ⟨w.heap.size,0,none⟩ (.int .i64 0)).setCell ⟨w.heap.size,1,none⟩ (.bool true)).setCell ⟨w.heap.size,2,none⟩ (.bool false)).setCell ⟨w.heap.size,3,none⟩ (.int .i64 0)).alloc (.cells #[.int .i64 0,.bool true,.bool false,.int .i64 0] 108)=aC at h M⊢;have af:=Y.cell h 0;have ag:=Y.cell h 1;have ah:=Y.cell h 2;have ai:=Y.cell h 3;exact bodyPost_ret (v:=.agg #[.int .i64 0,.bool true,.bool false,.int .i64 0]) (by simp[results,Tryz.results99,go_sem,af,ag,ah,ai]) rfl ⟨by unfold BO;rw[<-W.out,L.out];rfl,M⟩
     |deep a=>
      unfold CP;go_wp2_with fail;have h:=Y.alloc (IF G.out (.int .i64 0) (.bool false) (.bool true) (.int .i64 ((F:Int)+k+a))) (.cells #[.int .i64 0,.bool false,.bool true,.int .i64 ((F:Int)+k+a)] 108);have M:=AF (M5 ay.out (BN _) (.int .i64 0) (.bool false) (.bool true) (.int .i64 ((F:Int)+k+a))) (.cells #[.int .i64 0,.bool false,.bool true,.int .i64 ((F:Int)+k+a)] 108);generalize ((((aW.setCell ⟨w.heap.size,0,none⟩ (.int .i64 0)).setCell ⟨w.heap.size,1,none⟩ (.bool false)).setCell ⟨w.heap.size,2,none⟩ (.bool true)).setCell ⟨w.heap.size,3,none⟩ (.int .i64 ((F:Int)+k+a))).alloc (.cells #[.int .i64 0,.bool false,.bool true,.int .i64 ((F:Int)+k+a)] 108)=aC at h M⊢;have af:=Y.cell h 0;have ag:=Y.cell h 1;have ah:=Y.cell h 2;have ai:=Y.cell h 3;exact bodyPost_ret (v:=.agg #[.int .i64 0,.bool false,.bool true,.int .i64 ((F:Int)+k+a)]) (by simp[results,Tryz.results99,go_sem,af,ag,ah,ai]) rfl ⟨by unfold BO;rw[<-W.out,L.out];simp[Rs.add,CP];omega,M⟩
     |ok n=>
      unfold CP;have aV:=aU n rfl;have aX:(s.drop (k+1)).drop (n-1)=s.drop (k+max n 1):=(by rw[List.drop_drop];congr 1;omega);have az:=L.out;simp only[aX]at az;obtain⟨m,aY⟩:=U (max n 1);rw[aY]at az;have aZ:=Z az;clear az aX aU;have a0:(n=0/\m=1)\/(((n:Int)==0)=false/\ ¬n=0/\m=n):=by
       by_cases e:n=0
       ·exact .inl ⟨e,by omega⟩
       ·exact .inr ⟨by rw[A4];omega,e,by omega⟩
      clear aY;rcases a0 with⟨rfl,rfl⟩|⟨a0,bo,rfl⟩
      ·go_wp2_with fail;go_roundw;case rel=>exact⟨k+1,o,by go_num,by go_num,by omega,by omega,Y.alloc G.out _,AF ay.out _,by rw[<-W.out,aZ.out,Rs.add_add]⟩
       case measure=>simp[intOf];omega
      ·go_wp2_with fail;go_roundw;case rel=>exact⟨k+m,o,by go_num,by go_num,by omega,by omega,Y.alloc G.out _,AF ay.out _,by rw[<-W.out,aZ.out,Rs.add_add]⟩
       case measure=>simp[intOf];omega
  ·have a7:decide ((k:Int)<(s.length:Int))=false:=As (by omega);have ap:R=.more:=by
    have:=W.out;rw[IG (by omega),EZ]at this;exact this.symm
   subst ap;go_wp2_with fail;have h:=IF ak.out (.int .i64 0) (.bool true) (.bool false) (.int .i64 0);have M:=M5 al.out (BN _) (.int .i64 0) (.bool true) (.bool false) (.int .i64 0);generalize (((wr.setCell ⟨w.heap.size,0,none⟩ (.int .i64 0)).setCell ⟨w.heap.size,1,none⟩ (.bool true)).setCell ⟨w.heap.size,2,none⟩ (.bool false)).setCell ⟨w.heap.size,3,none⟩ (.int .i64 0)=aC at h M⊢;have af:=Y.cell h 0;have ag:=Y.cell h 1;have ah:=Y.cell h 2;have ai:=Y.cell h 3;exact bodyPost_ret (v:=.agg #[.int .i64 0,.bool true,.bool false,.int .i64 0]) (by simp[results,Tryz.results99,go_sem,af,ag,ah,ai]) rfl ⟨by unfold BO;rfl,M⟩
end Go.Proofs.YtdhfhphbkfgamaaGreat.Lx
