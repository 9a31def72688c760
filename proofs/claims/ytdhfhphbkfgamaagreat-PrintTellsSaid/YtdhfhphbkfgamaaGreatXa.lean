/- A part. -/
import Derived.Lib.Bytealg
import Derived.Lib.Walk
import Derived.Test.YtdhfhphbkfgamaaGreatKb
set_option maxRecDepth 100000
set_option linter.all false
set_option maxHeartbeats 0
namespace Go.Proofs.YtdhfhphbkfgamaaGreat.Lx
open Go.RowKit Proofs.Tryz
def sv(l:List UInt8):Value:=.string ⟨l.toArray⟩
theorem sz(l:List UInt8):(ByteArray.mk l.toArray).size=l.length:=by simp[ByteArray.size]
theorem Gf(l:List UInt8)(n m:Nat)(h:m=l.length):(ByteArray.mk l.toArray).extract n m=⟨(l.drop n).toArray⟩:=by
 subst h;apply ByteArray.ext;simp[ByteArray.data_extract];rw[List.take_of_length_le (by simp)]
theorem Jl(l:List UInt8)(n:Nat):(ByteArray.mk l.toArray).extract 0 n=⟨(l.take n).toArray⟩:=by
 apply ByteArray.ext;simp[ByteArray.data_extract]
theorem OF{l m:List UInt8} :(ByteArray.mk l.toArray=⟨m.toArray⟩)↔l=m:=by
 constructor
 ·intro h;have:=congrArg ByteArray.data h;simpa using this
 ·rintro rfl;rfl
theorem Ii(l m:List UInt8):((ByteArray.mk l.toArray)==⟨m.toArray⟩)=(l==m):=by
 show(l.toArray==m.toArray)=_;simp
theorem XM(l m:List UInt8)(w:World)(I:m.length<=1000)(J:l.length<=9223372036854775807):
  Calls prog 103 #[sv l,sv m] w fun e w'=>e=.returned (.bool (decide (l.take m.length=m)))/\w'=w:=by
 unfold sv;have h:=sz l;have z:=sz m;by_cases K:m.length<=l.length
 ·have G:decide (((ByteArray.mk m.toArray).size:Int)<=((ByteArray.mk l.toArray).size:Int))=true:=(by rw[h,z];simp;omega);have hx:=Jl l m.length;have L:=Ii (l.take m.length) m;have M:(0:Int)<=((ByteArray.mk m.toArray).size:Int)/\((ByteArray.mk m.toArray).size:Int)<=((ByteArray.mk l.toArray).size:Int):=(by rw[h,z];omega);have F:decide (l.take m.length=m)=(l.take m.length==m):=(by rw[Bool.eq_iff_iff];simp);rw[F];go_enter func103,ntmps103;go_wp2_with fail;go_ret;exact⟨rfl,rfl⟩
 ·have G:decide (((ByteArray.mk m.toArray).size:Int)<=((ByteArray.mk l.toArray).size:Int))=false:=(by rw[h,z];simp;omega);have F:decide (l.take m.length=m)=false:=by
   rw[Ex];intro e;have:=congrArg List.length e;rw[Fw]at this;omega
  rw[F];go_enter func103,ntmps103;go_wp2_with fail;go_ret;exact⟨rfl,rfl⟩
theorem XP(l m:List UInt8)(w:World)(z:m.length<=1000)(F:l.length<=9223372036854775807):
  Calls prog 94 #[sv l,sv m] w fun e w'=>e=.returned (.bool (decide (l.take m.length=m)))/\w'=w:=by
 have h:=Z (XM l m w z F);unfold sv at h⊢;go_enter func94,ntmps94;go_wp2_with fail;refine h.out.mono ?_;rintro e G ⟨rfl,rfl⟩;go_wp2
 go_ret;exact⟨rfl,rfl⟩
theorem Aw{c d:UInt8}(h:c≠d):((c.toNat:Int)==(d.toNat:Int))=false:=by
 rw[A4];intro e;exact h (UInt8.toNat_inj.1 (by omega))
theorem BE(l:List UInt8)(i:Nat)(h:i<l.length):(ByteArray.mk l.toArray)[i]'(by rw[sz];exact h)=l[i]:=by
 show l.toArray[i]=l[i];simp
theorem XL(s:ByteArray)(c:Int)(w:World):
  Calls prog 95 #[.string s,.int .u8 c] w fun e w'=>e=.returned (.int .i64 (Lib.indexByte s.data.toList c.toNat.toUInt8))/\w'=w:=by
 go_enter func95,ntmps95;go_wp2
 rw[run_callFunc_extern func104 (by kernel_rfl) (by kernel_rfl) (by kernel_rfl) (e:=Extern.BytealgIndexByte.indexByte) (by kernel_rfl),Lib.run_indexByteString];simp only[Result.andThen];rw[Oper.upon_value];go_wp2
 go_ret;exact⟨rfl,rfl⟩
theorem Sj(s:ByteArray)(c:Int)(w:World):
  Calls prog 78 #[.string s,.int .u8 c] w fun e w'=>e=.returned (.int .i64 (Lib.indexByte s.data.toList c.toNat.toUInt8))/\w'=w:=by
 have H:=Z (XL s c);go_enter func78,ntmps78;go_wp2_with fail;refine(H.out _).mono ?_;rintro e h ⟨rfl,rfl⟩;go_wp2
 go_ret;exact⟨rfl,rfl⟩
theorem Ax(l m:List UInt8):(ByteArray.mk l.toArray)++ByteArray.mk m.toArray=⟨(l++m).toArray⟩:=by
 apply ByteArray.ext;simp[ByteArray.data_append]
theorem UI{l:List UInt8}{i:Nat}(h:i<l.length):l.getD i 0=l[i]:=by
 rw[EK,CZ h];rfl
theorem KW{l:List UInt8}{i:Nat}(h:i<l.length):l.drop i≠[]:=by
 intro e;have:=congrArg List.length e;rw[D8]at this;simp at this;omega
theorem CF{l:List UInt8}{i:Nat}(h:i<l.length):l.drop i=l[i]::l.drop (i+1):=List.drop_eq_getElem_cons h
inductive Rs
 |ok (n:Nat)
 |more
 |deep (a:Nat)
def Rs.add(k:Nat):Rs->Rs
 | .ok n=> .ok (k+n)
 | .more=> .more
 | .deep a=> .deep (k+a)
theorem Rs.add_add(r:Rs)(j k:Nat):(r.add k).add j=r.add (j+k):=by cases r<;>simp[Rs.add,Nat.add_assoc]
theorem Rs.add_zero(r:Rs):r.add 0=r:=by cases r<;>simp[Rs.add]
def Eu(a:Int)(e:Int):PanicEntry:= { v:=.iface 95 (.agg #[.int .i64 a,.int .i64 e]),recovered:=false }
def Rs.out(i h:Nat):Rs->Ending
 | .ok n=> .returned (.int .i64 ((i:Int)+n))
 | .more=> .panicked [Eu h 23]
 | .deep a=> .panicked [Eu ((i:Int)+a) 17]
def CB(w:World)(rb:Nat)(l:List UInt8)(d:Nat):Prop:=Y w rb 100 #[sv l,.int .i64 d]
theorem CB.c0{w:World}{rb:Nat}{l:List UInt8}{d:Nat}(h:CB w rb l d):w.cell? ⟨rb,0,none⟩=some (.string ⟨l.toArray⟩):=Y.cell h 0
theorem CB.c1{w:World}{rb:Nat}{l:List UInt8}{d:Nat}(h:CB w rb l d):w.cell? ⟨rb,1,none⟩=some (.int .i64 d):=Y.cell h 1
theorem Bb{P:Program}{fn:Func}{R:Ending->World->Prop}{a:Act}{w:World}{z:List PanicEntry}(F:a.defers=[])(h:R (.panicked z) w):bodyPost P fn R (.panic z) a w:=by
 first
  |exact⟨F,h⟩
  |exact h
  |exact⟨h,F⟩
theorem Jb(rb d:Nat)(l:List UInt8)(w:World)(h:CB w rb l d):Calls prog 105 #[.pointer (some ⟨rb,0,none⟩)] w fun e w'=>e=.panicked [Eu l.length 23]/\w'=w:=by
 have z:=h.c0;have F:=Y.lt h;have G:=sz l;go_enter func105,ntmps105;go_wp2_with fail;exact Bb rfl ⟨rfl,rfl⟩
theorem Gw(rb d i:Nat)(l t:List UInt8)(w:World)(h:CB w rb l d)(G:i<=l.length)(I:l.length<=1000000)(F:t.length<=1000):
  Calls prog 77 #[.pointer (some ⟨rb,0,none⟩),.int .i64 i,sv t] w fun e w'=>e=.returned (.bool (decide ((l.drop i).take t.length=t)))/\w'=w:=by
 have z:=Z (XP (l.drop i) t w F (by rw[D8];omega));have J:=h.c0;have K:=Y.lt h;have L:=sz l;have hx:=Gf l i l.length rfl;have M:(0:Int)<=i/\(i:Int)<=(l.length:Int):=(by omega);unfold sv at z⊢;go_enter func77,ntmps77;go_wp2_with fail;refine z.out.mono ?_;rintro e N ⟨rfl,rfl⟩;go_wp2
 go_ret;exact⟨rfl,rfl⟩
def BV(c:UInt8)(esc:Bool):List UInt8->Rs
 |[]=> .more
 |[b]=>if esc=true/\b=92 then .more else if b=c then .ok 1 else .more
 |b::d::r=>if esc=true/\b=92 then(BV c esc r).add 2 else if b=c then .ok 1 else(BV c esc (d::r)).add 1
theorem MF{c:UInt8}{esc:Bool}{b:UInt8}{r:List UInt8}(h:esc=true/\b=92):BV c esc (b::r)=(BV c esc (r.drop 1)).add 2:=by
 cases r with
 |nil=>show(if esc=true/\b=92 then Rs.more else _)=_;rw[Ai h];rfl
 |cons d r=>show(if esc=true/\b=92 then(BV c esc r).add 2 else _)=_;rw[Ai h];rfl
theorem Jp{c:UInt8}{esc:Bool}{b:UInt8}{r:List UInt8}(h:¬(esc=true/\b=92))(z:b=c):BV c esc (b::r)=.ok 1:=by
 cases r with
 |nil=>show(if esc=true/\b=92 then Rs.more else if b=c then .ok 1 else _)=_;rw[AP h,Ai z]
 |cons d r=>show(if esc=true/\b=92 then(BV c esc r).add 2 else if b=c then .ok 1 else _)=_;rw[AP h,Ai z]
theorem LD{c:UInt8}{esc:Bool}{b:UInt8}{r:List UInt8}(h:¬(esc=true/\b=92))(z:¬b=c):BV c esc (b::r)=(BV c esc r).add 1:=by
 cases r with
 |nil=>show(if esc=true/\b=92 then Rs.more else if b=c then .ok 1 else .more)=_;rw[AP h,AP z];rfl
 |cons d r=>show(if esc=true/\b=92 then(BV c esc r).add 2 else if b=c then .ok 1 else _)=_;rw[AP h,AP z]
theorem MW(rb d i:Nat)(c:UInt8)(esc:Bool)(l:List UInt8)(w:World)(J:CB w rb l d)(ah:i<=l.length)(ai:l.length<=1000000):
  Calls prog 106 #[.pointer (some ⟨rb,0,none⟩),.int .i64 i,.int .u8 c.toNat,.bool esc] w fun e w'=>e=(BV c esc (l.drop i)).out i l.length/\w'=w:=by
 have ab:=Z (Jb rb d l w J);have aj:=J.c0;have ak:=Y.lt J;have al:=sz l;obtain⟨R,G⟩:=U ((BV c esc (l.drop i)).add i);have N:(BV c esc (l.drop i)).out i l.length=R.out 0 l.length:=by
  rw[<-G];cases BV c esc (l.drop i)<;>simp[Rs.add,Rs.out]
 rw[N];have ac:=Z G;clear G N J;go_enter func106,ntmps106;go_wp2_with fail;go_loopw [1] (fun v wr=> ∃k:Nat,v=.int .i64 k/\k<=l.length+1/\(BV c esc (l.drop k)).add k=R/\wr=w) (fun v _=>l.length+1-(intOf v).toNat);case atStart=>exact⟨i,rfl,by omega,ac.out,rfl⟩
 case round=>
  obtain⟨k,rfl,hk,O,rfl⟩:=hrel;have K:=Z O;clear O;by_cases W:k<l.length
  ·have ad:decide ((k:Int)<(l.length:Int))=true:=(by simp;omega);have ae:=BE l k W;have am:(0:Int)<=k/\(k:Int)<(l.length:Int):=(by omega);have L:=CF W;obtain⟨b,X⟩:=U (l[k]);rw[X]at ae L;have M:=Z L;clear L X;by_cases z:esc=true/\b=92
   ·obtain⟨rfl,rfl⟩:=z;have h:=MF (c:=c) (esc:=true) (b:=92) (r:=l.drop (k+1)) ⟨rfl,rfl⟩;rw[List.drop_drop]at h;have I:=Z h;clear h;go_wp2_with fail;go_roundw;case rel=>exact⟨k+2,by go_num,by omega,by rw[<-K.out,M.out,I.out,Rs.add_add],trivial⟩
    case measure=>simp[intOf];omega
   ·have aa:esc=false\/(esc=true/\((b.toNat:Int)==92)=false):=by
     cases esc with
     |false=>exact .inl rfl
     |true=>exact .inr ⟨rfl,Aw (fun e=>z ⟨rfl,e⟩)⟩
    by_cases F:b=c
    ·have h:=Jp (r:=l.drop (k+1)) z F;have I:=Z h;have af:((b.toNat:Int)==(c.toNat:Int))=true:=(by rw[F];simp);clear h z F;rcases aa with rfl|⟨rfl,ag⟩
     all_goals
      go_wp2_with fail;go_ret;refine⟨?_,rfl⟩;rw[<-K.out,M.out,I.out];simp[Rs.add,Rs.out]
    ·have h:=LD (r:=l.drop (k+1)) z F;have I:=Z h;have af:((b.toNat:Int)==(c.toNat:Int))=false:=Aw F;clear h z F;rcases aa with rfl|⟨rfl,ag⟩
     all_goals
      go_wp2_with fail;go_roundw;case rel=>exact⟨k+1,by go_num,by omega,by rw[<-K.out,M.out,I.out,Rs.add_add],trivial⟩
      case measure=>simp[intOf];omega
  ·have ad:decide ((k:Int)<(l.length:Int))=false:=(by simp;omega);have G:R=.more:=by
    have:=K.out;rw[IG (by omega)]at this;exact this.symm
   subst G;go_wp2_with fail;refine ab.out.mono ?_;rintro e an ⟨rfl,rfl⟩;exact Bb rfl ⟨rfl,rfl⟩
def Bq:Nat->List UInt8->Rs
 |_,[]=> .more
 |o,b::r=>if b=40 then(Bq (o+1) r).add 1 else if b≠41 then(Bq o r).add 1 else if 0<o then(Bq (o-1) r).add 1 else if r.take 1=[41]then .ok 2 else(Bq o r).add 1
theorem SM(rb d i:Nat)(l:List UInt8)(w:World)(K:CB w rb l d)(af:i<=l.length)(ag:l.length<=1000000):
  Calls prog 108 #[.pointer (some ⟨rb,0,none⟩),.int .i64 i] w fun e w'=>e=(Bq 0 (l.drop i)).out i l.length/\w'=w:=by
 have ah:=Z (Jb rb d l w K);have ab:=Z (fun k hk=>Gw rb d k l [41,41] w K hk ag (by decide));unfold sv at ab;have ao:=K.c0;have ap:=Y.lt K;have aq:=sz l;obtain⟨R,L⟩:=U ((Bq 0 (l.drop i)).add i);have ac:(Bq 0 (l.drop i)).out i l.length=R.out 0 l.length:=by
  rw[<-L];cases Bq 0 (l.drop i)<;>simp[Rs.add,Rs.out]
 rw[ac];have ai:=Z L;clear L ac K;go_enter func108,ntmps108;go_wp2_with fail;go_loopw [1,5] (fun v u wr=> ∃k o:Nat,v=.int .i64 k/\u=.int .i64 o/\k<=l.length/\o<=k/\(Bq o (l.drop k)).add k=R/\wr=w) (fun v _ _=>l.length+1-(intOf v).toNat);case atStart=>exact⟨i,0,rfl,rfl,af,DD _,ai.out,rfl⟩
 case round=>
  obtain⟨k,o,rfl,rfl,hk,ar,ad,rfl⟩:=hrel;have G:=Z ad;clear ad;by_cases ae:k<l.length
  ·have aj:decide ((k:Int)<(l.length:Int))=true:=(by simp;omega);have ak:=BE l k ae;have au:(0:Int)<=k/\(k:Int)<(l.length:Int):=(by omega);have h:=CF ae;obtain⟨b,I⟩:=U (l[k]);rw[I]at ak h;by_cases M:b=40
   ·subst M;have z:=Z (show Bq o (l.drop k)=(Bq (o+1) (l.drop (k+1))).add 1 by rw[h];rfl);clear h I;go_wp2_with fail;go_roundw;case rel=>exact⟨k+1,o+1,by go_num,by go_num,by omega,by omega,by rw[<-G.out,z.out,Rs.add_add],trivial⟩
    case measure=>simp[intOf];omega
   have aw:((b.toNat:Int)==40)=false:=Aw M;by_cases N:b=41
   ·subst N;by_cases al:0<o
    ·have z:=Z (show Bq o (l.drop k)=(Bq (o-1) (l.drop (k+1))).add 1 by rw[h];show(if(41:UInt8)=40 then _ else if(41:UInt8)≠41 then _ else if 0<o then _ else _)=_;rw[AP (by decide),AP (by decide),Ai al]);have ax:decide ((0:Int)<(o:Int))=true:=(by simp;omega);obtain⟨O,rfl⟩:∃O,o=O+1:=⟨o-1,by omega⟩;clear h I;go_wp2_with fail;go_roundw;case rel=>exact⟨k+1,O,by go_num,by go_num,by omega,by omega,by rw[<-G.out,z.out,Rs.add_add];rfl,trivial⟩
     case measure=>simp[intOf];omega
    ·obtain rfl:o=0:=by omega
     have F:=ab.out k (by omega);have W:(l.drop k).take 2=41::(l.drop (k+1)).take 1:=(by rw[h];rfl);have X:decide ((l.drop k).take [(41:UInt8),41].length=[41,41])=decide ((l.drop (k+1)).take 1=[41]):=by
      show decide ((l.drop k).take 2=[41,41])=_;rw[W];simp
     rw[X]at F;by_cases J:(l.drop (k+1)).take 1=[41]
     ·have z:=Z (show Bq 0 (l.drop k)=.ok 2 by rw[h];show(if(41:UInt8)=40 then _ else if(41:UInt8)≠41 then _ else if 0<0 then _ else if(l.drop (k+1)).take 1=[41]then _ else _)=_;rw[AP (by decide),AP (by decide),AP (by decide),Ai J]);rw[Au J]at F;have aa:=Z F;clear h I F W X J;go_wp2_with fail;refine aa.out.mono ?_;rintro e am ⟨rfl,rfl⟩;go_wp2_with fail;go_ret;refine⟨?_,rfl⟩;rw[<-G.out,z.out];simp[Rs.add,Rs.out]
     ·have z:=Z (show Bq 0 (l.drop k)=(Bq 0 (l.drop (k+1))).add 1 by rw[h];show(if(41:UInt8)=40 then _ else if(41:UInt8)≠41 then _ else if 0<0 then _ else if(l.drop (k+1)).take 1=[41]then _ else _)=_;rw[AP (by decide),AP (by decide),AP (by decide),AP J]);rw[As J]at F;have aa:=Z F;clear h I F W X J;go_wp2_with fail;refine aa.out.mono ?_;rintro e am ⟨rfl,rfl⟩;go_wp2_with fail;go_roundw;case rel=>exact⟨k+1,0,by go_num,rfl,by omega,by omega,by rw[<-G.out,z.out,Rs.add_add],trivial⟩
      case measure=>simp[intOf];omega
   ·have an:((b.toNat:Int)==41)=false:=Aw N;have ay:((b.toNat:Int) !=41)=true:=(by simp only[bne,an];rfl);have z:=Z (show Bq o (l.drop k)=(Bq o (l.drop (k+1))).add 1 by rw[h];show(if b=40 then _ else if b≠41 then _ else _)=_;rw[AP M,Ai N]);clear h I M N;go_wp2_with fail;go_roundw;case rel=>exact⟨k+1,o,by go_num,rfl,by omega,by omega,by rw[<-G.out,z.out,Rs.add_add],trivial⟩
    case measure=>simp[intOf];omega
  ·have aj:decide ((k:Int)<(l.length:Int))=false:=(by simp;omega);have L:R=.more:=by
    have:=G.out;rw[IG (by omega)]at this;cases o<;>exact this.symm
   subst L;go_wp2_with fail;refine ah.out.mono ?_;rintro e az ⟨rfl,rfl⟩;exact Bb rfl ⟨rfl,rfl⟩
def DB(h:List UInt8)(c:UInt8):Bool:=decide (0<=Lib.indexByte h c)
def BL(h:List UInt8->Rs)(e:UInt8)(z:List UInt8)(o:Nat)(t:List UInt8):Rs:=
 match t with
 |[]=> .more
 |c::r=>
  if c=e then(if o=0 then .ok 1 else(BL h e z (o-1) r).add 1)
  else if e=41/\c=40 then(BL h e z (o+1) r).add 1
  else if DB z c=true then(BL h e z o r).add 1
  else match h (c::r)with
   | .more=> .more
   | .deep a=> .deep a
   | .ok n=>(BL h e z o (r.drop (n-1))).add (max n 1)
termination_by t.length
decreasing_by
 all_goals simp
 all_goals omega
theorem EZ(h:List UInt8->Rs)(e:UInt8)(z:List UInt8)(o:Nat):BL h e z o []=.more:=by rw[BL]
theorem FV(h:List UInt8->Rs)(e:UInt8)(z:List UInt8)(o:Nat)(c:UInt8)(r:List UInt8):BL h e z o (c::r)=if c=e then(if o=0 then .ok 1 else(BL h e z (o-1) r).add 1)
 else if e=41/\c=40 then(BL h e z (o+1) r).add 1
 else if DB z c=true then(BL h e z o r).add 1
 else match h (c::r)with
  | .more=> .more
  | .deep a=> .deep a
  | .ok n=>(BL h e z o (r.drop (n-1))).add (max n 1):=by rw[BL]
def Dr(q:Bool)(t:List UInt8):Bool:=decide (t.take 1=[92])||decide (t.take 1=[96])||decide (t.take 2=[36,40])||decide (t.take 2=[36,123])||(!q&&(decide (t.take 1=[39])||decide (t.take 1=[34])))
def Ad:Nat->Bool->List UInt8->Rs
 |0,q,t=>if Dr q t=true then .deep 0 else .ok 0
 |lv+1,q,t=>
  if Dr q t=true then
   if t.take 1=[92]then(if t.length<2 then .more else .ok 2)
   else if t.take 1=[96]then(BV 96 true (t.drop 1)).add 1
   else if t.take 1=[39]then(BV 39 false (t.drop 1)).add 1
   else if t.take 1=[34]then(BL (Ad lv true) 34 [39] 0 (t.drop 1)).add 1
   else if t.take 3=[36,40,40]then(Bq 0 (t.drop 3)).add 3
   else if t.take 2=[36,40]then(BL (Ad lv false) 41 [] 0 (t.drop 2)).add 2
   else if q=true then(BL (Ad lv true) 125 [39] 0 (t.drop 2)).add 2
   else(BL (Ad lv false) 125 [] 0 (t.drop 2)).add 2
  else .ok 0
theorem Rs.C1{r:Rs}{k n:Nat}(h:r.add k=.ok n):∃m,r=.ok m/\n=k+m:=by
 cases r with
 |ok m=>injection h with h;exact⟨m,rfl,h.symm⟩
 |more=>cases h
 |deep a=>cases h
theorem JN(c:UInt8)(esc:Bool):∀(t:List UInt8) (n:Nat),BV c esc t=.ok n->n<=t.length
 |[],n,h=>by cases h
 |[b],n,h=>by
  unfold BV at h;split at h
  ·cases h
  ·split at h
   ·injection h with h;subst h;exact BN _
   ·cases h
 |b::d::r,n,h=>by
  unfold BV at h;split at h
  ·obtain⟨m,z,rfl⟩:=Rs.C1 h;have:=JN c esc r m z;simp;omega
  ·split at h
   ·injection h with h;subst h;simp
   ·obtain⟨m,z,rfl⟩:=Rs.C1 h;have:=JN c esc (d::r) m z;simp at this⊢;omega
theorem TK:∀(t:List UInt8) (o n:Nat),Bq o t=.ok n->n<=t.length:=by
 intro t;induction t with
 |nil=>intro o n h;cases o<;>cases h
 |cons b r ih=>
  intro o n h;have F:Bq o (b::r)=if b=40 then(Bq (o+1) r).add 1 else if b≠41 then(Bq o r).add 1 else if 0<o then(Bq (o-1) r).add 1 else if r.take 1=[41]then .ok 2 else(Bq o r).add 1:=(by cases o<;>rfl);rw[F]at h;rw[BR];split at h
  ·obtain⟨m,z,rfl⟩:=Rs.C1 h;have:=ih _ _ z;omega
  ·split at h
   ·obtain⟨m,z,rfl⟩:=Rs.C1 h;have:=ih _ _ z;omega
   ·split at h
    ·obtain⟨m,z,rfl⟩:=Rs.C1 h;have:=ih _ _ z;omega
    ·split at h
     ·rename_i G;injection h with h;have:=congrArg List.length G;rw[Fw]at this;simp at this;omega
     ·obtain⟨m,z,rfl⟩:=Rs.C1 h;have:=ih _ _ z;omega
theorem Py{I:List UInt8->Rs}(K:∀t n,I t=.ok n->n<=t.length)(e:UInt8)(L:List UInt8):∀(F:Nat) (t:List UInt8) (o n:Nat),t.length=F->BL I e L o t=.ok n->n<=t.length:=by
 intro F;induction F using Nat.strongRecOn with
 |ind F ih=>
  intro t o n J h;match t,J,h with
  |[],_,h=>rw[EZ]at h;cases h
  |c::r,J,h=>
   rw[BR]at J⊢;rw[FV]at h;split at h
   ·split at h
    ·injection h with h;omega
    ·obtain⟨m,z,rfl⟩:=Rs.C1 h;have:=ih _ (by omega) r _ _ rfl z;omega
   ·split at h
    ·obtain⟨m,z,rfl⟩:=Rs.C1 h;have:=ih _ (by omega) r _ _ rfl z;omega
    ·split at h
     ·obtain⟨m,z,rfl⟩:=Rs.C1 h;have:=ih _ (by omega) r _ _ rfl z;omega
     ·cases G:I (c::r)with
      |more=>rw[G]at h;cases h
      |deep a=>rw[G]at h;cases h
      |ok q=>
       rw[G]at h;have M:=K _ _ G;rw[BR]at M;obtain⟨m,z,rfl⟩:=Rs.C1 h;have:=ih _ (by rw[D8];omega) (r.drop (q-1)) _ _ rfl z;rw[D8]at this;omega
theorem take_len{t m:List UInt8}{k:Nat}(h:t.take k=m):m.length<=t.length:=by
 rw[<-h,Fw];omega
theorem JQ:∀(lv:Nat) (q:Bool) (t:List UInt8) (n:Nat),Ad lv q t=.ok n->n<=t.length:=by
 intro lv;induction lv with
 |zero=>
  intro q t n h;unfold Ad at h;split at h
  ·cases h
  ·injection h with h;omega
 |succ lv ih=>
  intro q t n h;unfold Ad at h;have J:=fun q e p=>Py (ih q) e p
  split at h
  ·split at h
   ·split at h
    ·cases h
    ·injection h with h;omega
   ·split at h
    ·rename_i I;have G:=take_len I;obtain⟨m,F,rfl⟩:=Rs.C1 h;have:=JN _ _ _ _ F;rw[D8]at this;simp at G;omega
    ·split at h
     ·rename_i I;have G:=take_len I;obtain⟨m,F,rfl⟩:=Rs.C1 h;have:=JN _ _ _ _ F;rw[D8]at this;simp at G;omega
     ·split at h
      ·rename_i I;have G:=take_len I;obtain⟨m,F,rfl⟩:=Rs.C1 h;have:=J _ _ _ _ _ _ _ rfl F;rw[D8]at this;simp at G;omega
      ·split at h
       ·rename_i I;have G:=take_len I;obtain⟨m,F,rfl⟩:=Rs.C1 h;have:=TK _ _ _ F;rw[D8]at this;simp at G;omega
       ·split at h
        ·rename_i I;have G:=take_len I;obtain⟨m,F,rfl⟩:=Rs.C1 h;have:=J _ _ _ _ _ _ _ rfl F;rw[D8]at this;simp at G;omega
        ·rename_i z K L M N W O;have G:2<=t.length:=by
          unfold Dr at z;simp only[GX,Di,CN]at z;rcases z with(((z|z)|z)|z)|⟨_,z|z⟩
          ·exact(K z).elim
          ·exact(L z).elim
          ·exact(O z).elim
          ·have:=take_len z;simpa using this
          ·exact(M z).elim
          ·exact(N z).elim
         split at h
         ·obtain⟨m,F,rfl⟩:=Rs.C1 h;have:=J _ _ _ _ _ _ _ rfl F;rw[D8]at this;omega
         ·obtain⟨m,F,rfl⟩:=Rs.C1 h;have:=J _ _ _ _ _ _ _ rfl F;rw[D8]at this;omega
  ·injection h with h;omega
def Kn(lv:Nat):Prop:=∀(rb d i:Nat) (q:Bool) (l:List UInt8) (w:World),CB w rb l d->lv+d=25->i<l.length->l.length<=1000000->
 Calls prog 96 #[.pointer (some ⟨rb,0,none⟩),.int .i64 i,.bool q] w fun e w'=>e=(Ad lv q (l.drop i)).out i l.length/\w.grownBy w' (some rb)/\ ∀n,Ad lv q (l.drop i)=.ok n->CB w' rb l d
theorem CB.Sm{w:World}{rb:Nat}{l:List UInt8}{d:Nat}(z:CB w rb l d)(h:Nat){x:Int}(hx:x=h):CB (w.setCell ⟨rb,1,none⟩ (.int .i64 x)) rb l h:=by
 subst hx;exact Y.AW z 1 _
theorem OO(lv:Nat)(ax:Kn lv)(rb d i:Nat)(e:UInt8)(z:List UInt8)(q:Bool)(l:List UInt8)(w:World)(W:CB w rb l d)(a3:lv+d+1=25)(aM:i<=l.length)(aN:l.length<=1000000):
  Calls prog 107 #[.pointer (some ⟨rb,0,none⟩),.int .i64 i,.int .u8 e.toNat,sv z,.bool q] w fun G w'=>G=(BL (Ad lv q) e z 0 (l.drop i)).out i l.length/\w.grownBy w' (some rb)/\ ∀n,BL (Ad lv q) e z 0 (l.drop i)=.ok n->CB w' rb l d:=by
 have a4:=sz l;obtain⟨R,X⟩:=U ((BL (Ad lv q) e z 0 (l.drop i)).add i);have ay:(BL (Ad lv q) e z 0 (l.drop i)).out i l.length=R.out 0 l.length:=by
  rw[<-X];cases BL (Ad lv q) e z 0 (l.drop i)<;>simp[Rs.add,Rs.out]
 have aj:∀w',((∃n,R=.ok n)->CB w' rb l d)-> ∀n,BL (Ad lv q) e z 0 (l.drop i)=.ok n->CB w' rb l d:=fun w' L n I=>L ⟨i+n,by rw[<-X,I];rfl⟩
 suffices H:Calls prog 107 #[.pointer (some ⟨rb,0,none⟩),.int .i64 i,.int .u8 e.toNat,sv z,.bool q] w fun G w'=>G=R.out 0 l.length/\w.grownBy w' (some rb)/\((∃n,R=.ok n)->CB w' rb l d) by
  refine H.mono ?_;rintro G w' ⟨rfl,aO,L⟩;exact⟨ay.symm,aO,aj w' L⟩
 have aP:=Z X;have aQ:=Z ax;have aR:=Z W;have az:=W.c0;have aA:=W.c1;have aB:=Y.frozen W 1;have aC:=Y.lt W;have aS:=Z (fun(c:UInt8) w'=>Sj ⟨z.toArray⟩ c.toNat w');clear X ay aj ax W;unfold sv;go_enter func107,ntmps107;go_wp2_with fail;have aD:=Z (aR.out.Sm (d+1) (x:=(d:Int)+1) (by omega));have aE:=Z (AN (AB w (some rb)) (p:=⟨rb,1,none⟩) (.inl rfl) (.int .i64 ((d:Int)+1)));clear az aA aB aC;go_loopw [1,11] (fun v u wr=> ∃k o:Nat,v=.int .i64 k/\u=.int .i64 o/\k<=l.length/\o<=k/\CB wr rb l (d+1)/\w.grownBy wr (some rb)/\(BL (Ad lv q) e z o (l.drop k)).add k=R) (fun v _ _=>l.length+1-(intOf v).toNat);case atStart=>exact⟨i,0,rfl,rfl,aM,DD _,aD.out,aE.out,aP.out⟩
 case round=>
  obtain⟨k,o,rfl,rfl,hk,aj,aa,aF,aG⟩:=hrel;have ab:=Z aa;have M:=Z aF;have J:=Z aG;have az:=aa.c0;have aA:=aa.c1;have aB:=Y.frozen aa 1;have aC:=Y.lt aa;clear aa aF aG aD aE;by_cases ak:k<l.length
  ·have aT:decide ((k:Int)<(l.length:Int))=true:=(by simp;omega);have aU:=BE l k ak;have a5:(0:Int)<=k/\(k:Int)<(l.length:Int):=(by omega);have N:=CF ak;obtain⟨c,ac⟩:=U (l[k]);rw[ac]at aU N;have h:=FV (Ad lv q) e z o c (l.drop (k+1));rw[<-N]at h;by_cases K:c=e
   ·have aV:((c.toNat:Int)==(e.toNat:Int))=true:=(by rw[K];simp);rw[Ai K]at h;by_cases aW:o=0
    ·subst aW;rw[Ai rfl]at h;have F:=Z h;clear h N ac K;go_wp2_with fail;refine bodyPost_ret (results_tmp rfl _ _ _) rfl ⟨?_,AN M.out (.inl rfl) _,fun _=>ab.out.Sm d (by omega)⟩;rw[<-J.out,F.out];simp[Rs.add,Rs.out]
    ·obtain⟨ag,rfl⟩:∃ag,o=ag+1:=⟨o-1,by omega⟩;rw[AP (by omega)]at h;have F:=Z h;have a6:(((ag:Int)+1)==0)=false:=(by rw[A4];omega);have a7:((ag:Int)+1=0)=False:=(by simp;omega);clear h N ac K;go_wp2_with fail;go_roundw;case rel=>exact⟨k+1,ag,by go_num,by go_num,by omega,by omega,ab.out,M.out,by rw[<-J.out,F.out,Rs.add_add];rfl⟩
     case measure=>simp[intOf];omega
   rw[AP K]at h;have aV:((c.toNat:Int)==(e.toNat:Int))=false:=Aw K;by_cases ad:e=41/\c=40
   ·rw[Ai ad]at h;have F:=Z h;obtain⟨rfl,rfl⟩:=ad;clear h N ac K;go_wp2_with fail;go_roundw;case rel=>exact⟨k+1,o+1,by go_num,by go_num,by omega,by omega,ab.out,M.out,by rw[<-J.out,F.out,Rs.add_add]⟩
    case measure=>simp[intOf];omega
   rw[AP ad]at h;have L:((e.toNat:Int)==41)=false\/(((e.toNat:Int)==41)=true/\((c.toNat:Int)==40)=false):=by
    by_cases al:e=41
    ·exact .inr ⟨by rw[al];rfl,Aw (d:=40) (fun aX=>ad ⟨al,aX⟩)⟩
    ·exact .inl (Aw (d:=41) al)
   have hx:=fun w'=>aS.out c w'
   have am:((c.toNat:Int).toNat.toUInt8)=c:=(by simp);rw[am]at hx;obtain⟨x,ah⟩:=U (Lib.indexByte (ByteArray.mk z.toArray).data.toList c);rw[ah]at hx;have an:DB z c=decide (0<=x):=(by rw[<-ah];unfold DB;simp);rw[an]at h;have ai:=Z hx;by_cases aH:0<=x
   ·have ao:decide ((0:Int)<=x)=true:=(by simpa using aH);rw[Ai ao]at h;have F:=Z h;clear h N ac K ad hx ah an am;rcases L with O|⟨O,ap⟩
    all_goals
     go_wp2_with fail;refine(ai.out _).mono ?_;rintro G aq ⟨rfl,rfl⟩;go_wp2_with fail;go_roundw;case rel=>exact⟨k+1,o,by go_num,by go_num,by omega,by omega,ab.out,M.out,by rw[<-J.out,F.out,Rs.add_add]⟩
     case measure=>simp[intOf];omega
   ·have ao:decide ((0:Int)<=x)=false:=(by simpa using aH);rw[AP (by rw[ao];decide)]at h;have ar:=fun w' aY=>aQ.out rb (d+1) k q l w' aY (by omega) ak aN
    obtain⟨P,au⟩:=U (Ad lv q (l.drop k));rw[au]at h ar;have aI:∀n,P=.ok n->k+n<=l.length:=fun n I=>by
     have:=JQ lv q (l.drop k) n (by rw[au,I]);rw[D8]at this;omega
    have F:=Z h;have ae:=Z (ar wr ab.out);clear h N ac K ad hx ah an am ar au;cases P with
    |more=>
     unfold Rs.out at ae;rcases L with O|⟨O,ap⟩
     all_goals
      go_wp2_with fail;refine(ai.out _).mono ?_;rintro G aq ⟨rfl,rfl⟩;go_wp2_with fail;refine ae.out.mono ?_;rintro G aJ ⟨rfl,af,_⟩;refine BC rfl (BC ?_ (BC (AJ M.out af) ?_))
      ·rw[<-J.out,F.out];rfl
      ·rintro⟨n,I⟩;rw[<-J.out,F.out]at I;cases I
    |deep a=>
     unfold Rs.out at ae;rcases L with O|⟨O,ap⟩
     all_goals
      go_wp2_with fail;refine(ai.out _).mono ?_;rintro G aq ⟨rfl,rfl⟩;go_wp2_with fail;refine ae.out.mono ?_;rintro G aJ ⟨rfl,af,_⟩;refine BC rfl (BC ?_ (BC (AJ M.out af) ?_))
      ·rw[<-J.out,F.out];simp[Rs.add,Rs.out]
      ·rintro⟨n,I⟩;rw[<-J.out,F.out]at I;cases I
    |ok n=>
     have I:=aI n rfl;have aK:(l.drop (k+1)).drop (n-1)=l.drop (k+max n 1):=(by rw[List.drop_drop];congr 1;omega);have aw:=F.out;simp only[aK]at aw;have aZ:=Z aw;clear aw aK aI;unfold Rs.out at ae;rcases L with O|⟨O,ap⟩
     all_goals
      go_wp2_with fail;refine(ai.out _).mono ?_;rintro G aq ⟨rfl,rfl⟩;go_wp2_with fail;refine ae.out.mono ?_;rintro G aJ ⟨rfl,af,aL⟩;have a0:=Z (aL n rfl);have a1:=Z (AJ M.out af);clear af aL;go_wp2_with (first|(refine Km ((k+max n 1:Nat):Int) ((k:Int)+n) ((k:Int)+1) rfl rfl (by omega) ?_));go_roundw;case rel=>exact⟨k+max n 1,o,by go_num,by go_num,by omega,by omega,a0.out,a1.out,by rw[<-J.out,aZ.out,Rs.add_add]⟩
      case measure=>simp[intOf];omega
  ·have aT:decide ((k:Int)<(l.length:Int))=false:=(by simp;omega);have X:R=.more:=by
    have:=J.out;rw[IG (by omega),EZ]at this;exact this.symm
   subst X;have a2:=Z (Jb rb (d+1) l wr ab.out);go_wp2_with fail;refine a2.out.mono ?_;rintro G a8 ⟨rfl,rfl⟩;exact Bb rfl ⟨rfl,M.out,fun⟨n,I⟩=>by cases I⟩
end Go.Proofs.YtdhfhphbkfgamaaGreat.Lx
