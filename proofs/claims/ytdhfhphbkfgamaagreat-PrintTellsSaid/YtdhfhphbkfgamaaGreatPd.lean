/- A part. -/
import Derived.Deep.LoopGhost
import Derived.Test.YtdhfhphbkfgamaaGreatPc
set_option maxRecDepth 100000
set_option linter.all false
set_option maxHeartbeats 0
namespace Go.Proofs.YtdhfhphbkfgamaaGreat
open Go.RowKit Lx Proofs.Tryz
theorem An{a b:Bool}(h:a=b):Ending.returned (.bool a)=.returned (.bool b):=by rw[h]
theorem FL{a b:Int}(h:a=b):Ending.returned (.int .i64 a)=.returned (.int .i64 b):=by rw[h]
theorem IW(av:Nat->Prop)(base:Nat->Prop)(rb d:Nat)(K L:Value)(ts:List AY)(ns:List V)(s:List UInt8)(w:World)(h:CB av base w rb K L ts ns d):
  Calls prog 60 #[.pointer (some ⟨rb,0,none⟩),sv s] w fun e w'=>e=.returned (.bool (Dx ts s))/\w.grownBy w' none:=by
 obtain⟨t,r,g,ac,ad,rfl,rfl,M,ae,N,O,W⟩:=h.head;obtain⟨d0,d1,d2⟩:=h.cells;have lb:=Y.lt h.BF;have X:(0:Int)<(((t::r).length:Nat):Int):=(by simp only[BR];omega);have F:Dx (t::r) s=(t.k==2&&t.t==s):=rfl;obtain⟨af,G⟩:=U ((t::r).length);rw[G]at d0 X M;have I:=Z F;clear h F G;obtain⟨z,aa,ag⟩:=t;simp only[]at N O W;unfold sv;by_cases hk:z=2
 ·subst hk;go_enter func60,ntmps60;go_wp2_with fail;go_ret;exact⟨An (a:=aa==s) (by rw[I.out];simp),AB w none⟩
 ·have q:((z:Int)==2)=false:=(by rw[A4];omega);have J:(z==2)=false:=(by rw[A4];exact hk);have ab:=Z J;clear J;go_enter func60,ntmps60;go_wp2_with fail;go_ret;exact⟨An (a:=false) (by rw[I.out];simp only[ab.out,Bool.false_and]),AB w none⟩
theorem JW(av:Nat->Prop)(base:Nat->Prop)(rb d:Nat)(K L:Value)(ts:List AY)(ns:List V)(s:List UInt8)(w:World)(h:CB av base w rb K L ts ns d):
  Calls prog 82 #[.pointer (some ⟨rb,0,none⟩),sv s] w fun e w'=>e=.returned (.bool (GD ts s))/\w.grownBy w' none:=by
 obtain⟨t,r,g,ac,ad,rfl,rfl,M,ae,N,O,W⟩:=h.head;obtain⟨d0,d1,d2⟩:=h.cells;have lb:=Y.lt h.BF;have X:(0:Int)<(((t::r).length:Nat):Int):=(by simp only[BR];omega);have F:GD (t::r) s=(t.k==1&&t.t==s):=rfl;obtain⟨af,G⟩:=U ((t::r).length);rw[G]at d0 X M;have I:=Z F;clear h F G;obtain⟨z,aa,ag⟩:=t;simp only[]at N O W;unfold sv;by_cases hk:z=1
 ·subst hk;go_enter func82,ntmps82;go_wp2_with fail;go_ret;exact⟨An (a:=aa==s) (by rw[I.out];simp),AB w none⟩
 ·have q:((z:Int)==1)=false:=(by rw[A4];omega);have J:(z==1)=false:=(by rw[A4];exact hk);have ab:=Z J;clear J;go_enter func82,ntmps82;go_wp2_with fail;go_ret;exact⟨An (a:=false) (by rw[I.out];simp only[ab.out,Bool.false_and]),AB w none⟩
theorem Rk:∀n:Fin 256,bits .or .u8 (n.val:Int) 32=((n.val|||32:Nat):Int)/\(97<=n.val|||32/\n.val|||32<=122↔(97<=n.val/\n.val<=122)\/(65<=n.val/\n.val<=90)):=by decide+kernel
theorem YL(c:UInt8):∃h:Nat,bits .or .u8 (c.toNat:Int) 32=(h:Int)/\(97<=h/\h<=122↔(97<=c.toNat/\c.toNat<=122)\/(65<=c.toNat/\c.toNat<=90)):=⟨_,Rk ⟨c.toNat,c.toNat_lt⟩⟩
theorem VV{f:Bool}{c:UInt8}{r:List UInt8}(h:(FF c||(!f&&Gp c))=true):Fp f (c::r)=Fp false r+1:=by
 show(if _ then _ else _)=_;rw[Ai h]
theorem Xu{f:Bool}{c:UInt8}{r:List UInt8}(h:¬(FF c||(!f&&Gp c))=true):Fp f (c::r)=0:=by
 show(if _ then _ else _)=_;rw[AP h]
theorem NZ(s:List UInt8)(w:World)(hs:s.length<=9223372036854775807):Calls prog 122 #[sv s] w fun e w'=>e=.returned (.int .i64 (Fp true s))/\w'=w:=by
 have ax:=sz s;unfold sv;go_enter func122,ntmps122;go_wp2_with fail;go_loopw [7] (fun ab wr=> ∃k:Nat,ab=.int .i64 k/\k<=s.length/\Fp true s=k+Fp (decide (k=0)) (s.drop k)/\wr=w) (fun ab _=>s.length-(intOf ab).toNat);case atStart=>exact⟨0,rfl,DD _,by simp,rfl⟩
 case round=>
  obtain⟨k,rfl,hk,O,rfl⟩:=hrel;by_cases aj:k<s.length
  ·have an:decide ((k:Int)<(s.length:Int))=true:=Au (by omega);have ao:=BE s k aj;have ay:(0:Int)<=k/\(k:Int)<(s.length:Int):=(by omega);have ac:=CF aj;obtain⟨c,ak⟩:=U (s[k]);rw[ak]at ao ac;rw[ac]at O;obtain⟨M,az,al⟩:=YL c;have z:(FF c||(!decide (k=0)&&Gp c))=true->Fp true s=(k+1)+Fp (decide (k+1=0)) (s.drop (k+1)):=fun G=>by
    rw[O,VV G,show decide (k+1=0)=false from rfl];omega
   have h:¬(FF c||(!decide (k=0)&&Gp c))=true->Fp true s=k:=fun G=>by
    rw[Xu G]at O;omega
   have F:FF c=true↔(97<=M/\M<=122)\/c.toNat=95:=by
    unfold FF;simp only[GX,Di];rw[al]
   clear ak ac O al;by_cases ap:97<=M
   ·have aq:decide ((97:Int)<=(M:Int))=true:=Au (by omega);by_cases ar:M<=122
    ·have au:decide ((M:Int)<=122)=true:=Au (by omega);have K:=Z (z (by rw[F.2 (.inl ⟨ap,ar⟩)];rfl));clear z h F;go_wp2_with fail;go_roundw;case rel=>exact⟨k+1,by go_num,by omega,K.out,trivial⟩
     case measure=>simp[intOf];omega
    ·have au:decide ((M:Int)<=122)=false:=As (by omega);by_cases ad:c.toNat=95
     ·have ae:((c.toNat:Int)==95)=true:=(by rw[DQ];omega);have K:=Z (z (by rw[F.2 (.inr ad)];rfl));clear z h F;go_wp2_with fail;go_roundw;case rel=>exact⟨k+1,by go_num,by omega,K.out,trivial⟩
      case measure=>simp[intOf];omega
     have ae:((c.toNat:Int)==95)=false:=(by rw[A4];omega);have L:FF c=false:=by
      cases af:FF c with
      |false=>rfl
      |true=>exact Aj (F.1 af) (by omega)
     by_cases W:k=0
     ·subst W;have ag:decide ((0:Int)<((0:Nat):Int))=false:=(by decide);have I:=Z (h (by rw[L];simp));clear z h F;go_wp2_with fail;go_ret;exact⟨FL (by rw[I.out]),rfl⟩
     have ag:decide ((0:Int)<(k:Int))=true:=Au (by omega);have N:decide (k=0)=false:=As W;by_cases X:48<=c.toNat
     ·have ah:decide ((48:Int)<=(c.toNat:Int))=true:=Au (by omega);by_cases aa:c.toNat<=57
      ·have ai:decide ((c.toNat:Int)<=57)=true:=Au (by omega);have J:Gp c=true:=Au ⟨X,aa⟩;have K:=Z (z (by rw[L,N,J];rfl));clear z h F;go_wp2_with fail;go_roundw;case rel=>exact⟨k+1,by go_num,by omega,K.out,trivial⟩
       case measure=>simp[intOf];omega
      ·have ai:decide ((c.toNat:Int)<=57)=false:=As (by omega);have J:Gp c=false:=As (fun G=>aa G.2);have I:=Z (h (by rw[L,N,J];simp));clear z h F;go_wp2_with fail;go_ret;exact⟨FL (by rw[I.out]),rfl⟩
     ·have ah:decide ((48:Int)<=(c.toNat:Int))=false:=As (by omega);have J:Gp c=false:=As (fun G=>X G.1);have I:=Z (h (by rw[L,N,J];simp));clear z h F;go_wp2_with fail;go_ret;exact⟨FL (by rw[I.out]),rfl⟩
   ·have aq:decide ((97:Int)<=(M:Int))=false:=As (by omega);by_cases ad:c.toNat=95
    ·have ae:((c.toNat:Int)==95)=true:=(by rw[DQ];omega);have K:=Z (z (by rw[F.2 (.inr ad)];rfl));clear z h F;go_wp2_with fail;go_roundw;case rel=>exact⟨k+1,by go_num,by omega,K.out,trivial⟩
     case measure=>simp[intOf];omega
    have ae:((c.toNat:Int)==95)=false:=(by rw[A4];omega);have L:FF c=false:=by
     cases af:FF c with
     |false=>rfl
     |true=>exact Aj (F.1 af) (by omega)
    by_cases W:k=0
    ·subst W;have ag:decide ((0:Int)<((0:Nat):Int))=false:=(by decide);have I:=Z (h (by rw[L];simp));clear z h F;go_wp2_with fail;go_ret;exact⟨FL (by rw[I.out]),rfl⟩
    have ag:decide ((0:Int)<(k:Int))=true:=Au (by omega);have N:decide (k=0)=false:=As W;by_cases X:48<=c.toNat
    ·have ah:decide ((48:Int)<=(c.toNat:Int))=true:=Au (by omega);by_cases aa:c.toNat<=57
     ·have ai:decide ((c.toNat:Int)<=57)=true:=Au (by omega);have J:Gp c=true:=Au ⟨X,aa⟩;have K:=Z (z (by rw[L,N,J];rfl));clear z h F;go_wp2_with fail;go_roundw;case rel=>exact⟨k+1,by go_num,by omega,K.out,trivial⟩
      case measure=>simp[intOf];omega
     ·have ai:decide ((c.toNat:Int)<=57)=false:=As (by omega);have J:Gp c=false:=As (fun G=>aa G.2);have I:=Z (h (by rw[L,N,J];simp));clear z h F;go_wp2_with fail;go_ret;exact⟨FL (by rw[I.out]),rfl⟩
    ·have ah:decide ((48:Int)<=(c.toNat:Int))=false:=As (by omega);have J:Gp c=false:=As (fun G=>X G.1);have I:=Z (h (by rw[L,N,J];simp));clear z h F;go_wp2_with fail;go_ret;exact⟨FL (by rw[I.out]),rfl⟩
  ·obtain rfl:k=s.length:=by omega
   have an:decide ((s.length:Int)<(s.length:Int))=false:=As (by omega);have am:Fp true s=s.length:=(by rw[O,IG (BN _)];show s.length+0=_;omega);clear O;have aw:=Z am;clear am;go_wp2_with fail;go_ret;exact⟨FL (by rw[aw.out]),rfl⟩
theorem AS{P:Program}{fn:Func}{R:Ending->World->Prop}{a:Act}{w:World}{z:List PanicEntry}(F:a.defers=[])(h:R (.panicked z) w):bodyPost P fn R (.panic z) a w:=by
 first
  |exact⟨F,h⟩
  |exact h
  |exact⟨h,F⟩
theorem Hq(s:List UInt8)(w:World):Calls prog 85 #[sv s] w fun e w'=>e=.returned (.bool (Df s))/\w.grownBy w' none:=by
 unfold sv;by_cases h:s=[33]
 ·subst h;go_enter func85,ntmps85;go_wp2_with fail;go_ret;exact⟨An (a:=true) (by decide),AB w none⟩
 have ae:(s==[33])=false:=Bd h;by_cases z:s=[123]
 ·subst z;go_enter func85,ntmps85;go_wp2_with fail;go_ret;exact⟨An (a:=true) (by decide),AB w none⟩
 have af:(s==[123])=false:=Bd z;by_cases F:s=[125]
 ·subst F;go_enter func85,ntmps85;go_wp2_with fail;go_ret;exact⟨An (a:=true) (by decide),AB w none⟩
 have ag:(s==[125])=false:=Bd F;by_cases G:s=[99,97,115,101]
 ·subst G;go_enter func85,ntmps85;go_wp2_with fail;go_ret;exact⟨An (a:=true) (by decide),AB w none⟩
 have ah:(s==[99,97,115,101])=false:=Bd G;by_cases I:s=[100,111]
 ·subst I;go_enter func85,ntmps85;go_wp2_with fail;go_ret;exact⟨An (a:=true) (by decide),AB w none⟩
 have ai:(s==[100,111])=false:=Bd I;by_cases J:s=[100,111,110,101]
 ·subst J;go_enter func85,ntmps85;go_wp2_with fail;go_ret;exact⟨An (a:=true) (by decide),AB w none⟩
 have aj:(s==[100,111,110,101])=false:=Bd J;by_cases K:s=[101,108,105,102]
 ·subst K;go_enter func85,ntmps85;go_wp2_with fail;go_ret;exact⟨An (a:=true) (by decide),AB w none⟩
 have ak:(s==[101,108,105,102])=false:=Bd K;by_cases L:s=[101,108,115,101]
 ·subst L;go_enter func85,ntmps85;go_wp2_with fail;go_ret;exact⟨An (a:=true) (by decide),AB w none⟩
 have al:(s==[101,108,115,101])=false:=Bd L;by_cases M:s=[101,115,97,99]
 ·subst M;go_enter func85,ntmps85;go_wp2_with fail;go_ret;exact⟨An (a:=true) (by decide),AB w none⟩
 have am:(s==[101,115,97,99])=false:=Bd M;by_cases N:s=[102,105]
 ·subst N;go_enter func85,ntmps85;go_wp2_with fail;go_ret;exact⟨An (a:=true) (by decide),AB w none⟩
 have an:(s==[102,105])=false:=Bd N;by_cases O:s=[102,111,114]
 ·subst O;go_enter func85,ntmps85;go_wp2_with fail;go_ret;exact⟨An (a:=true) (by decide),AB w none⟩
 have ao:(s==[102,111,114])=false:=Bd O;by_cases W:s=[105,102]
 ·subst W;go_enter func85,ntmps85;go_wp2_with fail;go_ret;exact⟨An (a:=true) (by decide),AB w none⟩
 have ap:(s==[105,102])=false:=Bd W;by_cases X:s=[105,110]
 ·subst X;go_enter func85,ntmps85;go_wp2_with fail;go_ret;exact⟨An (a:=true) (by decide),AB w none⟩
 have aq:(s==[105,110])=false:=Bd X;by_cases aa:s=[116,104,101,110]
 ·subst aa;go_enter func85,ntmps85;go_wp2_with fail;go_ret;exact⟨An (a:=true) (by decide),AB w none⟩
 have ar:(s==[116,104,101,110])=false:=Bd aa;by_cases ab:s=[117,110,116,105,108]
 ·subst ab;go_enter func85,ntmps85;go_wp2_with fail;go_ret;exact⟨An (a:=true) (by decide),AB w none⟩
 have au:(s==[117,110,116,105,108])=false:=Bd ab;by_cases ac:s=[119,104,105,108,101]
 ·subst ac;go_enter func85,ntmps85;go_wp2_with fail;go_ret;exact⟨An (a:=true) (by decide),AB w none⟩
 have aw:(s==[119,104,105,108,101])=false:=Bd ac;have ad:Df s=false:=by
  unfold Df Lh;simp only[List.contains_cons,List.contains_nil,Bool.or_false];simp only[Da,GM,C4,GQ,ER,BX,Fl,Fa,DG,IH,JS,Ph,F1,Fb,Dk,Dv,ae,af,ag,ah,ai,aj,ak,al,am,an,ao,ap,aq,ar,au,aw,Bool.or_false]
 have ax:=Z ad;clear ad;go_enter func85,ntmps85;go_wp2_with fail;go_ret;exact⟨An (a:=false) (by rw[ax.out]),AB w none⟩
def UQ(w:World)(a:Option Addr)(h:List (List UInt8)):Prop:=∀i (F:i<h.length),∃b z,a=some ⟨b,z,none⟩/\b<w.heap.size/\w.cell? ⟨b,z+i,none⟩=some (sv h[i])
def R0(h:List (List UInt8))(s:List UInt8)(w:World)(e:Ending)(w':World):Prop:=∃n:Int,e=.returned (.int .i64 n)/\decide (0<=n)=h.contains s/\w'=w
theorem Q6(h:List (List UInt8))(s:List UInt8)(a:Option Addr)(W:Nat)(w:World)(J:UQ w a h)(af:h.length<=1000000):
  Calls prog 114 #[.slice a h.length W,sv s] w (R0 h s w):=by
 have X:=Z J;clear J;unfold sv;go_enter func114,ntmps114;go_wp2_with fail;go_loop [8] (fun I=> ∃k:Nat,I=.int .i64 k/\k<=h.length/\ ∀i (F:i<h.length),i<k->h[i]≠s) (fun I=>h.length-(intOf I).toNat)
 case atStart=>exact⟨0,rfl,DD _,fun i _ K=>Aj K (by omega)⟩
 case round=>
  obtain⟨k,rfl,hk,L⟩:=hrel;have M:=Z L;clear L;by_cases N:k<h.length
  ·have aa:decide ((k:Int)<(h.length:Int))=true:=Au (by omega);have ag:(0:Int)<=k/\(k:Int)<(h.length:Int):=(by omega);obtain⟨ah,ai,rfl,aj,G⟩:=X.out k N;by_cases z:h[k]=s
   ·have ab:=Z (show decide ((0:Int)<=(k:Int))=h.contains s by rw[Au (by omega)];symm;rw[List.contains_iff_mem];exact z▸Cp N);rw[z]at G;unfold sv at G;have O:(s==s)=true:=(by simp);clear z;go_wp2_with fail;go_ret;exact⟨(k:Int),rfl,ab.out,rfl⟩
   ·have ac:=Z (fun i (F:i<h.length) (K:i<k+1)=>(if e:i=k then(by subst e;exact z)else M.out i F (by omega):h[i]≠s));have O:(s==h[k])=false:=Bd (fun e=>z e.symm);obtain⟨x,hx⟩:=U (h[k]);rw[hx]at G O;unfold sv at G;clear hx z;go_wp2_with fail;go_round
    case rel=>exact⟨k+1,by go_num,by omega,ac.out⟩
    case measure=>simp[intOf];omega
  ·obtain rfl:k=h.length:=by omega
   have aa:decide ((h.length:Int)<(h.length:Int))=false:=As (by omega);have ad:=Z (show decide ((0:Int)<= -1)=h.contains s by
    rw[show decide ((0:Int)<= -1)=false from rfl];symm
    rw[<-Bool.not_eq_true,List.contains_iff_mem];intro ae;obtain⟨i,F,z⟩:=List.getElem_of_mem ae;exact M.out i F F z)
   go_wp2_with fail;go_ret;exact⟨-1,rfl,ad.out,rfl⟩
theorem Ma(h:List (List UInt8))(s:List UInt8)(a:Option Addr)(F:Nat)(w:World)(G:UQ w a h)(K:h.length<=1000000):
  Calls prog 98 #[.slice a h.length F,sv s] w fun e w'=>e=.returned (.bool (h.contains s))/\w'=w:=by
 have z:=Z (Q6 h s a F w G K);clear G;unfold sv at z⊢;obtain⟨B,I⟩:=U (h.contains s);unfold R0 at z;rw[I]at z⊢;clear I;go_enter func98,ntmps98;go_wp2_with fail;refine z.out.mono ?_;rintro e M ⟨n,rfl,J,rfl⟩;have L:=Z J;clear J;go_wp2_with fail;go_ret;exact⟨An L.out,rfl⟩
def GY(t:AY):Value:=.agg #[.int .i64 t.k,sv t.t,.int .i64 t.a]
theorem Ga(t:AY)(w:World):Calls prog 83 #[GY t] w fun e w'=>e=.returned (.bool (Fj t))/\w.grownBy w' none:=by
 obtain⟨h,s,X⟩:=t;have z:=Z (show Fj ⟨h,s,X⟩=((h==2&&s==Bz)||(h==1&&Fi.contains s))from rfl);unfold GY sv;by_cases I:s=[40]
 ·subst I;by_cases hk:h=2
  ·subst hk;go_enter func83,ntmps83;go_wp2_with fail;go_ret;exact⟨An (a:=true) (by rw[z.out];rfl),AF (AB w none) _⟩
  ·have q:((h:Int)==2)=false:=(by rw[A4];omega);have F:=Z (show(h==2)=false by rw[A4];exact hk);have G:=Z (show((h==2&&[40]==Bz)||(h==1&&Fi.contains [40]))=false by rw[show Fi.contains [40]=false from rfl,F.out];simp);go_enter func83,ntmps83;go_wp2_with fail;go_ret;exact⟨An (a:=false) (by rw[z.out,G.out]),AF (AB w none) _⟩
 have aa:(s==[40])=false:=Bd I;by_cases J:s=[123]
 ·subst J;by_cases hk:h=1
  ·subst hk;go_enter func83,ntmps83;go_wp2_with fail;go_ret;exact⟨An (a:=true) (by rw[z.out];rfl),AF (AB w none) _⟩
  ·have q:((h:Int)==1)=false:=(by rw[A4];omega);have F:=Z (show(h==1)=false by rw[A4];exact hk);have G:=Z (show((h==2&&[123]==Bz)||(h==1&&Fi.contains [123]))=false by rw[show([123]==Bz)=false from rfl,F.out];simp);go_enter func83,ntmps83;go_wp2_with fail;go_ret;exact⟨An (a:=false) (by rw[z.out,G.out]),AF (AB w none) _⟩
 have ab:(s==[123])=false:=Bd J;by_cases K:s=[105,102]
 ·subst K;by_cases hk:h=1
  ·subst hk;go_enter func83,ntmps83;go_wp2_with fail;go_ret;exact⟨An (a:=true) (by rw[z.out];rfl),AF (AB w none) _⟩
  ·have q:((h:Int)==1)=false:=(by rw[A4];omega);have F:=Z (show(h==1)=false by rw[A4];exact hk);have G:=Z (show((h==2&&[105,102]==Bz)||(h==1&&Fi.contains [105,102]))=false by rw[show([105,102]==Bz)=false from rfl,F.out];simp);go_enter func83,ntmps83;go_wp2_with fail;go_ret;exact⟨An (a:=false) (by rw[z.out,G.out]),AF (AB w none) _⟩
 have ac:(s==[105,102])=false:=Bd K;by_cases L:s=[119,104,105,108,101]
 ·subst L;by_cases hk:h=1
  ·subst hk;go_enter func83,ntmps83;go_wp2_with fail;go_ret;exact⟨An (a:=true) (by rw[z.out];rfl),AF (AB w none) _⟩
  ·have q:((h:Int)==1)=false:=(by rw[A4];omega);have F:=Z (show(h==1)=false by rw[A4];exact hk);have G:=Z (show((h==2&&[119,104,105,108,101]==Bz)||(h==1&&Fi.contains [119,104,105,108,101]))=false by rw[show([119,104,105,108,101]==Bz)=false from rfl,F.out];simp);go_enter func83,ntmps83;go_wp2_with fail;go_ret;exact⟨An (a:=false) (by rw[z.out,G.out]),AF (AB w none) _⟩
 have ad:(s==[119,104,105,108,101])=false:=Bd L;by_cases M:s=[117,110,116,105,108]
 ·subst M;by_cases hk:h=1
  ·subst hk;go_enter func83,ntmps83;go_wp2_with fail;go_ret;exact⟨An (a:=true) (by rw[z.out];rfl),AF (AB w none) _⟩
  ·have q:((h:Int)==1)=false:=(by rw[A4];omega);have F:=Z (show(h==1)=false by rw[A4];exact hk);have G:=Z (show((h==2&&[117,110,116,105,108]==Bz)||(h==1&&Fi.contains [117,110,116,105,108]))=false by rw[show([117,110,116,105,108]==Bz)=false from rfl,F.out];simp);go_enter func83,ntmps83;go_wp2_with fail;go_ret;exact⟨An (a:=false) (by rw[z.out,G.out]),AF (AB w none) _⟩
 have ae:(s==[117,110,116,105,108])=false:=Bd M;by_cases N:s=[102,111,114]
 ·subst N;by_cases hk:h=1
  ·subst hk;go_enter func83,ntmps83;go_wp2_with fail;go_ret;exact⟨An (a:=true) (by rw[z.out];rfl),AF (AB w none) _⟩
  ·have q:((h:Int)==1)=false:=(by rw[A4];omega);have F:=Z (show(h==1)=false by rw[A4];exact hk);have G:=Z (show((h==2&&[102,111,114]==Bz)||(h==1&&Fi.contains [102,111,114]))=false by rw[show([102,111,114]==Bz)=false from rfl,F.out];simp);go_enter func83,ntmps83;go_wp2_with fail;go_ret;exact⟨An (a:=false) (by rw[z.out,G.out]),AF (AB w none) _⟩
 have af:(s==[102,111,114])=false:=Bd N;by_cases O:s=[99,97,115,101]
 ·subst O;by_cases hk:h=1
  ·subst hk;go_enter func83,ntmps83;go_wp2_with fail;go_ret;exact⟨An (a:=true) (by rw[z.out];rfl),AF (AB w none) _⟩
  ·have q:((h:Int)==1)=false:=(by rw[A4];omega);have F:=Z (show(h==1)=false by rw[A4];exact hk);have G:=Z (show((h==2&&[99,97,115,101]==Bz)||(h==1&&Fi.contains [99,97,115,101]))=false by rw[show([99,97,115,101]==Bz)=false from rfl,F.out];simp);go_enter func83,ntmps83;go_wp2_with fail;go_ret;exact⟨An (a:=false) (by rw[z.out,G.out]),AF (AB w none) _⟩
 have ag:(s==[99,97,115,101])=false:=Bd O;have W:((h==2&&s==Bz)||(h==1&&Fi.contains s))=false:=by
  unfold Fi;simp only[List.contains_cons,List.contains_nil,Bool.or_false];simp only[GM,Ph,Dv,Dk,JS,GQ,Bz,aa,ab,ac,ad,ae,af,ag,Bool.and_false,Bool.or_false]
 have ah:=Z W;clear W;go_enter func83,ntmps83;go_wp2_with fail;go_ret;exact⟨An (a:=false) (by rw[z.out,ah.out]),AF (AB w none) _⟩
theorem F0(av:Nat->Prop)(base:Nat->Prop)(rb d:Nat)(G I:Value)(t:AY)(r:List AY)(ns:List V)(w:World)(h:CB av base w rb G I (t::r) ns d):
  Calls prog 31 #[.pointer (some ⟨rb,0,none⟩)] w fun e w'=>e=.panicked [GF t.a (if t.k=4 then 23 else 17)]/\w.grownBy w' none:=by
 obtain⟨t0,aa,g,ab,ac,J,rfl,K,ad,L,M,N⟩:=h.head;injection J with O W;subst O W;obtain⟨d0,d1,d2⟩:=h.cells;have lb:=Y.lt h.BF;have X:(0:Int)<(((t::r).length:Nat):Int):=(by simp only[BR];omega);obtain⟨ae,z⟩:=U ((t::r).length);rw[z]at d0 X K;clear h z;obtain⟨F,af,ag⟩:=t;simp only[]at L M N;unfold GF;by_cases hk:F=4
 ·subst hk;go_enter func31,ntmps31;go_wp2_with fail;exact AS rfl ⟨rfl,AF (AB w none) _⟩
 ·have q:((F:Int)==4)=false:=(by rw[A4];omega);go_enter func31,ntmps31;go_wp2_with fail;exact AS rfl ⟨by simp only[hk,if_false],AF (AB w none) _⟩
theorem I5(t:AY)(w:World):Calls prog 84 #[GY t] w fun e w'=>e=.returned (.bool (FO t))/\w.grownBy w' none:=by
 obtain⟨z,F,M⟩:=t;have K:FO ⟨z,F,M⟩=(z==2&&GJ.contains F):=rfl;have I:=Z K;have G:=Z (fun h a N (O:UQ h a GJ)=>Ma GJ F a N h O (by decide));have W:=Z (fun(h:World) (b:Nat) (X:h.heap.size=b)=>(show UQ (h.alloc (.cells #[.string ⟨#[60]⟩,.string ⟨#[62]⟩,.string ⟨#[62,62]⟩,.string ⟨#[60,38]⟩,.string ⟨#[62,38]⟩,.string ⟨#[60,62]⟩,.string ⟨#[62,124]⟩] 9)) (some ⟨b,0,none⟩) GJ by
  subst X;intro i J;refine⟨h.heap.size,0,rfl,by rw[BW];omega,?_⟩;have aa:=Y.new h 9 #[.string ⟨#[60]⟩,.string ⟨#[62]⟩,.string ⟨#[62,62]⟩,.string ⟨#[60,38]⟩,.string ⟨#[62,38]⟩,.string ⟨#[60,62]⟩,.string ⟨#[62,124]⟩];rw[Dc,Y.cell aa];have J:i<7:=J;match i,J with
  |0,_=>rfl
  |1,_=>rfl
  |2,_=>rfl
  |3,_=>rfl
  |4,_=>rfl
  |5,_=>rfl
  |6,_=>rfl))
 obtain⟨B,L⟩:=U (GJ.contains F);rw[L]at G I;unfold sv at G;rw[show(GJ.length:Nat)=7 from rfl]at G;clear K L;unfold GY sv;by_cases hk:z=2
 ·subst hk;go_enter func84,ntmps84;go_wp2_with fail;refine(G.out _ _ _ (W.out _ _ (BW _ _))).mono ?_;rintro e ac ⟨rfl,rfl⟩;go_wp2_with fail;go_ret;exact⟨An (a:=B) (by rw[I.out];simp),AF (AF (AB w none) _) _⟩
 ·have q:((z:Int)==2)=false:=(by rw[A4];omega);have ab:=Z (show(z==2)=false by rw[A4];exact hk);go_enter func84,ntmps84;go_wp2_with fail;go_ret;exact⟨An (a:=false) (by rw[I.out,ab.out];rfl),AF (AB w none) _⟩
theorem MO(t:AY)(w:World)(hs:t.t.length<=9223372036854775807):Calls prog 110 #[GY t] w fun e w'=>e=.returned (.bool (CE t))/\w.grownBy w' none:=by
 obtain⟨h,s,I⟩:=t;have z:=Z (show CE ⟨h,s,I⟩=(h==1&&Fp true s==s.length)from rfl);have F:=Z (fun K=>NZ s K hs);have M:=sz s;unfold GY;unfold sv at F⊢;obtain⟨n,J⟩:=U (Fp true s);rw[J]at z F;clear J;have G:=Z (Y.new w 69 #[.int .i64 h,.string ⟨s.toArray⟩,.int .i64 I]);have lb:=Y.lt G.out;have N:=Y.cell G.out 0;have O:=Y.cell G.out 1;by_cases hk:h=1
 ·subst hk;go_enter func110,ntmps110;go_wp2_with fail;go_quiet ((go_at_call 122;exact Calls.quiet_of_same (F.out _)));go_wp2_with fail;go_ret;exact⟨An (a:=((n:Int)==(s.length:Int))) (by rw[z.out,Bool.eq_iff_iff];first|(simp;done)|(simp;omega)),At (AF (AB w none) _) _⟩
 ·have q:((h:Int)==1)=false:=(by rw[A4];omega);have L:=Z (show(h==1)=false by rw[A4];exact hk);go_enter func110,ntmps110;go_wp2_with fail;go_quiet (fail);go_wp2_with fail;go_ret;exact⟨An (a:=false) (by rw[z.out,L.out];rfl),At (AF (AB w none) _) _⟩
section
section
variable {av:Nat->Prop}{base:Nat->Prop}{rb d:Nat}{w w':World}{vt vn:Value}{ts:List AY}{ns:List V}
theorem Ct.Bi{v u:Value}{p:Addr}(F:Ct av w v ns)(G:base p.block)(h:Bn w p.block 65):Ct av (w.setCell p u) v ns:=by
 obtain⟨I,z,J⟩:=F;have K:Fr base w (w.setCell p u):=(Fr.refl base w).set G (.inl h) u;refine⟨I,z.Bi (fun e=>?_) u,fun i L=>?_⟩
 ·have:=(z.AO e).uniq h;exact Aj this (by decide)
 ·obtain⟨x,y,r,M,k,e,N⟩:=J i L;exact⟨x,y,r,M,k,e,N.fr K⟩
theorem CB.step{t:AY}{r:List AY}{g z F G:Nat}(h:CB av base w rb (.slice (some ⟨g,z,none⟩) F G) vn (t::r) ns d)(J:(t::r).length=F)(hk:t.k≠4):
  CB av base (w.setCell ⟨rb,0,none⟩ (.slice (some ⟨g,z+3,none⟩) (F-1) (G-1))) rb (.slice (some ⟨g,z+3,none⟩) (F-1) (G-1)) vn r ns d:=by
 subst J;have I:=Own.from_ h.tok 1 (by simp);have K:(Jo (t::r)).drop (1*3)=Jo r:=rfl;rw[K]at I;have L:(t::r).length-1=r.length:=rfl;rw[L]at I⊢;have M:(Value.slice (some ⟨g,z+3,none⟩) r.length (G-1)).ownBlock≠some rb:=fun e=>by
  have:=(Own.AO (w:=w) I e).uniq h.BF.AO;exact Aj this (by decide)
 refine⟨Y.AW h.BF 0 _,(I.mono (DD _)).Bi (p:=⟨rb,0,none⟩) M _,h.NT.Bi (p:=⟨rb,0,none⟩) h.lo.at_ h.BF.AO,h.new,h.lo.size (by rw[World.size_setCell];exact BN _),h.Ak.tail hk,?_,h.dep,fun x hx=>h.Lc x (List.mem_cons_of_mem _ hx)⟩;have:=h.EG;simp only[BR]at this;omega
theorem CB.Si(h:CB av base w rb vt vn ts ns d)(j:Nat)(u:Value):Fr base w (w.setCell ⟨rb,j,none⟩ u):=(Fr.refl base w).set (p:=⟨rb,j,none⟩) h.lo.at_ (.inl h.BF.AO) u
end
def IX:World->AY->Value->Prop:=fun _ t v=>v=GY t
def YS(ts:List AY)(ns:List V):PR AY:=match ts with
 |t::r=> .ok t r ns
 |[]=> .bad 0 0
theorem Et(av:Nat->Prop)(base:Nat->Prop)(rb d:Nat)(vt vn:Value)(t:AY)(r:List AY)(ns:List V)(w:World)(h:CB av base w rb vt vn (t::r) ns d)(hk:t.k≠4):
  Calls prog 61 #[.pointer (some ⟨rb,0,none⟩)] w (Br IX av base w rb vn d (.ok t r ns)):=by
 obtain⟨t0,ae,g,af,G,J,rfl,K,ag,L,M,N⟩:=h.head;injection J with O W;subst O W;obtain⟨d0,d1,d2⟩:=h.cells;have lb:=Y.lt h.BF;have ah:=Y.frozen h.BF 0;have X:=(h.Ak.tail hk).pos;have I:(t::r).length=r.length+1:=rfl;obtain⟨F,z⟩:=U ((t::r).length);have aa:=Z (CB.step (by rw[<-z];exact h) z hk);rw[z]at d0 K I;have ai:(0:Int)<(F:Int):=(by omega);have aj:(1:Int)<=(F:Int):=(by omega);have ak:¬(G=1):=(by omega);have al:1<=F:=(by omega);have am:1<G:=(by omega);unfold Br IX GY EU;clear h z hk I X;obtain⟨ab,ac,ad⟩:=t;simp only[]at L M N;go_enter func61,ntmps61;go_wp2_with fail;refine bodyPost_ret (v:=.agg #[.int .i64 ab,.string ⟨ac.toArray⟩,.int .i64 ad]) (by simp[results,Tryz.results61,go_sem]) rfl ?_;exact⟨_,rfl,rfl,⟨_,aa.out.grown (AF (AF (AB _ none) _) _)⟩,AF (AF (AN (AB w (some rb)) (p:=⟨rb,0,none⟩) (.inl rfl) _) _) _⟩
def I9:World->Bool->Value->Prop:=fun _ b v=>v=.bool b
theorem EU.grown{av:Nat->Prop}{base:Nat->Prop}{rb d:Nat}{w w':World}{vn:Value}{ts:List AY}{ns:List V}(h:EU av base w rb vn ts ns d)(z:w.grownBy w' none):EU av base w' rb vn ts ns d:=by
 obtain⟨vt,h⟩:=h;exact⟨vt,h.grown z⟩
theorem EU.Ak{av:Nat->Prop}{base:Nat->Prop}{rb d:Nat}{w:World}{vn:Value}{ts:List AY}{ns:List V}(h:EU av base w rb vn ts ns d):Good ts:=by
 obtain⟨vt,h⟩:=h;exact h.Ak
theorem CQ.grown{av:Nat->Prop}{base:Nat->Prop}{rb d:Nat}{w w':World}{ts:List AY}{ns:List V}(h:CQ av base w rb ts ns d)(z:w.grownBy w' none):CQ av base w' rb ts ns d:=by
 obtain⟨vt,vn,h⟩:=h;exact⟨vt,vn,h.grown z⟩
theorem CQ.Ak{av:Nat->Prop}{base:Nat->Prop}{rb d:Nat}{w:World}{ts:List AY}{ns:List V}(h:CQ av base w rb ts ns d):Good ts:=by
 obtain⟨vt,vn,h⟩:=h;exact h.Ak
theorem DO{a b:World}{rb:Nat}(h:a.grownBy b none):a.grownBy b (some rb):=Cc h _
theorem CS{a b c:World}{rb:Nat}(h:a.grownBy b (some rb))(k:b.grownBy c (some rb)):a.grownBy c (some rb):=AJ h k
theorem LI(av:Nat->Prop)(base:Nat->Prop)(rb d:Nat)(vn:Value)(ts:List AY)(ns:List V)(s:List UInt8)(w:World)(ab:EU av base w rb vn ts ns d):
  Calls prog 63 #[.pointer (some ⟨rb,0,none⟩),sv s] w (Br I9 av base w rb vn d (.ok (BT ts s) (A5 ts s) ns)):=by
 have aj:=ab.Ak;obtain⟨t,r,rfl⟩:=aj.ne;have K:=Z ab;have M:=Z (fun h (z:EU av base h rb vn (t::r) ns d)=>(show Calls prog 60 #[.pointer (some ⟨rb,0,none⟩),sv s] h fun e w'=>e=.returned (.bool (Dx (t::r) s))/\h.grownBy w' none by obtain⟨vt,z⟩:=z;exact IW av base rb d vt vn _ ns s h z));have X:=Z (fun h (z:EU av base h rb vn (t::r) ns d)=>(show Calls prog 82 #[.pointer (some ⟨rb,0,none⟩),sv s] h fun e w'=>e=.returned (.bool (GD (t::r) s))/\h.grownBy w' none by obtain⟨vt,z⟩:=z;exact JW av base rb d vt vn _ ns s h z));have ac:=Z (fun h (z:EU av base h rb vn (t::r) ns d) (hk:t.k≠4)=>(show Calls prog 61 #[.pointer (some ⟨rb,0,none⟩)] h (Br IX av base h rb vn d (.ok t r ns)) by obtain⟨vt,z⟩:=z;exact Et av base rb d vt vn t r ns h z hk));have L:=Z (show BT (t::r) s=(Dx (t::r) s||GD (t::r) s)from rfl);have ad:=Z (fun(G:BT (t::r) s=true)=>(GL G).1);have aa:=Z (fun(G:BT (t::r) s=true)=>(show A5 (t::r) s=r by unfold A5;rw[G];rfl));have ae:=Z (fun(G:BT (t::r) s=false)=>(show A5 (t::r) s=t::r by unfold A5;rw[G];rfl));unfold Br IX at ac;unfold Br I9;unfold sv at M X⊢;obtain⟨a,ak⟩:=U (Dx (t::r) s);obtain⟨b,G⟩:=U (GD (t::r) s);rw[ak]at M L;rw[G]at X L;obtain⟨c,al⟩:=U (BT (t::r) s);rw[al]at L ad aa ae⊢;obtain⟨T,am⟩:=U (A5 (t::r) s);rw[am]at aa ae⊢;clear ab aj ak G al am;cases a with
 |true=>
  obtain rfl:c=true:=L.out;obtain rfl:T=r:=aa.out rfl;go_enter func63,ntmps63;go_wp2_with fail;refine(M.out _ K.out).mono ?_;rintro e an ⟨rfl,F⟩;have I:=Z (K.out.grown F);have N:=Z F;clear F;go_wp2_with fail;refine(ac.out _ I.out (ad.out trivial)).mono ?_;rintro e ao ⟨v,rfl,rfl,O,W⟩;have af:=Z O;have ag:=Z (CS (DO N.out) W);clear O W;go_wp2_with fail;go_ret;exact⟨_,rfl,rfl,af.out,ag.out⟩
 |false=>
  cases b with
  |true=>
   obtain rfl:c=true:=L.out;obtain rfl:T=r:=aa.out rfl;go_enter func63,ntmps63;go_wp2_with fail;refine(M.out _ K.out).mono ?_;rintro e an ⟨rfl,F⟩;have I:=Z (K.out.grown F);have N:=Z F;clear F;go_wp2_with fail;refine(X.out _ I.out).mono ?_;rintro e ap ⟨rfl,J⟩;have ah:=Z (I.out.grown J);have ai:=Z (AI N.out J);clear J;go_wp2_with fail;refine(ac.out _ ah.out (ad.out trivial)).mono ?_;rintro e ao ⟨v,rfl,rfl,O,W⟩;have af:=Z O;have ag:=Z (CS (DO ai.out) W);clear O W;go_wp2_with fail;go_ret;exact⟨_,rfl,rfl,af.out,ag.out⟩
  |false=>
   obtain rfl:c=false:=L.out;obtain rfl:T=t::r:=ae.out rfl;go_enter func63,ntmps63;go_wp2_with fail;refine(M.out _ K.out).mono ?_;rintro e an ⟨rfl,F⟩;have I:=Z (K.out.grown F);have N:=Z F;clear F;go_wp2_with fail;refine(X.out _ I.out).mono ?_;rintro e ap ⟨rfl,J⟩;have ah:=Z (I.out.grown J);have ai:=Z (AI N.out J);clear J;go_wp2_with fail;go_ret;exact⟨_,rfl,rfl,ah.out,DO ai.out⟩
theorem NA(av:Nat->Prop)(base:Nat->Prop)(rb d:Nat)(vn:Value)(ts:List AY)(ns:List V)(s:List UInt8)(w:World)(K:EU av base w rb vn ts ns d):
  Calls prog 123 #[.pointer (some ⟨rb,0,none⟩),sv s] w (Br Cr av base w rb vn d (AX s ts ns)):=by
 have O:=K.Ak;obtain⟨t,r,rfl⟩:=O.ne;have W:=Z K;have z:=Z (fun h (F:EU av base h rb vn (t::r) ns d)=>LI av base rb d vn _ ns s h F);have ac:=Z (fun h (F:EU av base h rb vn (t::r) ns d)=>(show Calls prog 31 #[.pointer (some ⟨rb,0,none⟩)] h fun e w'=>e=.panicked [GF t.a (if t.k=4 then 23 else 17)]/\h.grownBy w' none by obtain⟨vt,F⟩:=F;exact F0 av base rb d vt vn t r ns h F));unfold Br I9 at z;unfold AX;obtain⟨c,J⟩:=U (BT (t::r) s);have X:=Z (fun(L:c=true)=>(show A5 (t::r) s=r by unfold A5;rw[J,L];rfl));have aa:=Z (fun(L:c=false)=>(show A5 (t::r) s=t::r by unfold A5;rw[J,L];rfl));rw[J]at z⊢;obtain⟨T,ab⟩:=U (A5 (t::r) s);rw[ab]at X aa z;unfold sv at z⊢;clear K O J ab;cases c with
 |true=>
  obtain rfl:T=r:=X.out rfl;rw[Ai rfl];unfold Br Cr;simp only[List.tail_cons];go_enter func123,ntmps123;go_wp2_with fail;refine(z.out _ W.out).mono ?_;rintro e ad ⟨v,rfl,rfl,G,I⟩;have M:=Z G;have N:=Z I;clear G I;go_wp2_with fail;refine bodyPost_end (results_none rfl _ _ _) rfl ⟨_,rfl,rfl,M.out,N.out⟩
 |false=>
  obtain rfl:T=t::r:=aa.out rfl;rw[AP (by decide)];unfold A3 Br;simp only[];go_enter func123,ntmps123;go_wp2_with fail;refine(z.out _ W.out).mono ?_;rintro e ad ⟨v,rfl,rfl,G,I⟩;have M:=Z G;have N:=Z I;clear G I;go_wp2_with fail;refine(ac.out _ M.out).mono ?_;rintro e af ⟨rfl,ae⟩;exact AS rfl ⟨rfl,CS N.out (DO ae)⟩
theorem LX(av:Nat->Prop)(base:Nat->Prop)(rb d:Nat)(vn:Value)(ts:List AY)(ns:List V)(w:World)(X:EU av base w rb vn ts ns d):
  Calls prog 29 #[.pointer (some ⟨rb,0,none⟩)] w (Br Cr av base w rb vn d (.ok () (AG ts) ns)):=by
 have aj:=Z X;have J:=Z (fun h ts (z:EU av base h rb vn ts ns d)=>(show Calls prog 60 #[.pointer (some ⟨rb,0,none⟩),sv GI] h fun e w'=>e=.returned (.bool (Dx ts GI))/\h.grownBy w' none by obtain⟨vt,z⟩:=z;exact IW av base rb d vt vn _ ns GI h z));have aa:=Z (fun h t r (z:EU av base h rb vn (t::r) ns d) (hk:t.k≠4)=>(show Calls prog 61 #[.pointer (some ⟨rb,0,none⟩)] h (Br IX av base h rb vn d (.ok t r ns)) by obtain⟨vt,z⟩:=z;exact Et av base rb d vt vn t r ns h z hk));unfold Br IX at aa;unfold Br Cr;unfold GI sv at J;obtain⟨B,K⟩:=U (AG ts);rw[K];have ak:=Z K;clear X K;go_enter func29,ntmps29;go_wp2_with fail;go_loopg [] ts.length (fun g wr=> ∃T,AG T=B/\T.length<=g/\EU av base wr rb vn T ns d/\w.grownBy wr (some rb));case atStart=>exact⟨ts,ak.out,BN _,aj.out,AB w _⟩
 case round=>
  obtain⟨T,ab,ac,L,ad⟩:=hrel;obtain⟨t,r,rfl⟩:=L.Ak.ne;have ae:=Z ab;have I:=Z L;have af:=Z ad;have ag:=Z ac;clear ab L ad ac;obtain⟨c,F⟩:=U (Dx (t::r) [10]);have ap:=Z F;cases c with
  |true=>
   have al:=Z (MK F).1;have M:=Z (show AG r=B by
    rw[<-ae.out];show _=(if _ then _ else _);rw[Ai (show(t.k==2&&t.t==GI)=true from F)])
   have N:=Z (fun h z=>by have:=J.out h (t::r) z;rw[F]at this;exact this);clear F;go_wp2_with fail;refine(N.out _ I.out).mono ?_;rintro e am ⟨rfl,G⟩;have O:=Z (I.out.grown G);have W:=Z (CS af.out (DO G));clear G;go_wp2_with fail;refine(aa.out _ t r O.out (by have:=al.out;omega)).mono ?_;rintro e aq ⟨v,rfl,rfl,ah,ai⟩;have an:=Z ah;have ao:=Z (CS W.out ai);clear ah ai;go_wp2_with fail;go_roundg (gk-1);case rel=>exact⟨r,M.out,by have:=ag.out;simp only[BR]at this;omega,an.out,ao.out⟩
   case measure=>have:=ag.out;simp only[BR]at this;omega
  |false=>
   have M:=Z (show t::r=B by
    rw[<-ae.out];show _=(if _ then _ else _);rw[AP (show¬(t.k==2&&t.t==GI)=true from by rw[show(t.k==2&&t.t==GI)=false from F];decide)])
   have N:=Z (fun h z=>by have:=J.out h (t::r) z;rw[F]at this;exact this);clear F;go_wp2_with fail;refine(N.out _ I.out).mono ?_;rintro e am ⟨rfl,G⟩;have O:=Z (I.out.grown G);have W:=Z (CS af.out (DO G));clear G;go_wp2_with fail;refine bodyPost_end (results_none rfl _ _ _) rfl ⟨_,rfl,rfl,by rw[<-M.out];exact O.out,W.out⟩
end
theorem LC:(prog.info? 32).map (fun i=>(i.zero,i.size,i.bytes))=some (some (.agg #[.int .i64 0,.string ⟨#[]⟩,.bool false,.slice none 0 0,.slice none 0 0,.slice none 0 0,.slice none 0 0,.slice none 0 0]),8,152):=by kernel_rfl
theorem Tr{h xs:List Value}{n i:Nat}(z:h.length=n*8)(F:i<n):((h++xs).drop (i*8)).take 8=(h.drop (i*8)).take 8:=by
 rw[List.drop_append_of_le_length (by omega),List.take_append_of_le_length (by rw[D8];omega)]
theorem Ct.add{av:Nat->Prop}{base:Nat->Prop}{w w':World}{F a b r p k:Value}{ns:List V}{n:V}{h:List Value}(G:h.length=ns.length*8)(J:∀i (ac:i<ns.length),∃a b r p k,(h.drop (i*8)).take 8=AU ns[i] a b r p k/\Bk av w a b r p k ns[i])
  (K:Own w' 32 8 F (ns.length+1) (h++AU n a b r p k) 0) (I:Fr base w w') (L:Bk av w a b r p k n):Ct av w' F (ns++[n]):=by
 refine⟨h++AU n a b r p k,by rw[BG,Cj];exact K,fun i M=>?_⟩;rw[BG,Cj]at M;by_cases z:i<ns.length
 ·obtain⟨N,O,W,X,aa,e,ab⟩:=J i z;refine⟨N,O,W,X,aa,?_,?_⟩
  ·rw[Tr G z,e,List.getElem_append_left z]
  ·rw[List.getElem_append_left z];exact ab.fr I
 ·obtain rfl:i=ns.length:=by omega
  refine⟨a,b,r,p,k,?_,?_⟩
  ·rw[<-G,List.drop_left' rfl,List.getElem_append_right (BN _)];simp[AU]
  ·rw[List.getElem_append_right (BN _)];simp
   exact L.fr I
theorem Bk.C5{av:Nat->Prop}{w:World}{a b r p k:Value}{n:V}(h:Bk av w a b r p k n):∃z F G I J K L M N O W X aa ab ac,a=.slice z F G/\b=.slice I J K/\r=.slice L M N/\p=.slice O W X/\k=.slice aa ab ac:=by
 obtain⟨aj,ak,ad,_⟩:=h.AZ.form;obtain⟨al,am,ae,_⟩:=h.words.form;obtain⟨an,ao,af,_⟩:=h.DJ.form;obtain⟨ap,ag,_,_⟩:=h.AT;obtain⟨aq,ar,ah,_⟩:=ag.form;obtain⟨au,aw,ai,_⟩:=h.kids.form;exact⟨_,_,_,_,_,_,_,_,_,_,_,_,_,_,_,ad,ae,af,ah,ai⟩
theorem WL(h:World)(B:Nat)(n:V)(z F G I J:Option Addr)(K L M N O W X aa ab ac:Nat)(ae:h.heap.size=B):
  Src prog 8 22 (.slice (some ⟨B,0,none⟩) 1 1) 1 (AU n (.slice z K L) (.slice F M N) (.slice G O W) (.slice I X aa) (.slice J ab ac)) (h.alloc (.cells #[.int .i64 n.kind,.string ⟨n.name.toArray⟩,.bool n.A7,.slice z K L,.slice F M N,.slice G O W,.slice I X aa,.slice J ab ac] 32)):=by
 subst ae;refine Own.src (P:=prog) (tx:=22) (e':=32) (n:=1) (k:=0) (e:=32) ⟨rfl,.inr ⟨h.heap.size,0,1,_,(0,0),rfl,Y.new h 32 _,BN _,BN _,by unfold maxLen;omega,by show 0+1*8<=8;omega,fun j af=>by rw[Dc];simp[AU,sv]⟩⟩ (by kernel_rfl) ?_;intro u ad;simp only[AU,List.mem_cons,List.mem_nil_iff,or_false]at ad;rcases ad with rfl|rfl|rfl|rfl|rfl|rfl|rfl|rfl<;>rfl
theorem Hg(av:Nat->Prop)(base:Nat->Prop)(rb d:Nat)(ts:List AY)(ns:List V)(n:V)(a b r p k:Value)(w:World)(am:CQ av base w rb ts ns d)(aT:Bk av w a b r p k n)(bn:ns.length+1+10*ts.length<=100000):
  Calls prog 64 #[.pointer (some ⟨rb,0,none⟩),.agg (AU n a b r p k).toArray] w (Am Cg av base w rb d (Ao n ts ns)):=by
 obtain⟨M,N,O,W,X,aa,ab,ac,ad,ae,af,ag,ah,ai,aj,rfl,rfl,rfl,rfl,rfl⟩:=aT.C5;obtain⟨aZ,bK,am⟩:=am;obtain⟨bo,aK,a0⟩:=am.NT;obtain⟨aU,aV,rfl,bp,_⟩:=aK.form;have a1:=aK.len;obtain⟨d0,d1,d2⟩:=am.cells;have lb:=Y.lt am.BF;have bq:=Y.frozen am.BF 1;have L:=Z am;have a2:=Z aT;have a3:=Z aK;have br:=Z a0;have bs:=Z (fun F B aW=>WL F B n M W ab ae ah N O X aa ac ad af ag ai aj aW);have G:=Z (Y.new w 32 (AU n (.slice M N O) (.slice W X aa) (.slice ab ac ad) (.slice ae af ag) (.slice ah ai aj)).toArray);have bt:=Z a1;unfold Ao Am Cg CQ;clear am aT aK a0 a1;obtain⟨I,aL⟩:=U ns.length;rw[aL]at d1 bp;have ak:=Z aL;rw[aL];have bL:I<=100000:=(by omega);clear aL;unfold AU at G;obtain⟨an,ao,ap,bu,bv,bw,bx,bz⟩:=n;simp only[]at G;simp only[AU];unfold sv at G⊢;have bA:(w.alloc (.cells #[.int .i64 an,.string ⟨ao.toArray⟩,.bool ap,.slice M N O,.slice W X aa,.slice ab ac ad,.slice ae af ag,.slice ah ai aj] 32)).heap.size=w.heap.size+1:=BW _ _;go_enter func64,ntmps64;go_wp2_with fail;have au:=AF (AB w none) (.cells #[.int .i64 an,.string ⟨ao.toArray⟩,.bool ap,.slice M N O,.slice W X aa,.slice ab ac ad,.slice ae af ag,.slice ah ai aj] 32);have az:=L.out.grown au;have aM:=Bl au a3.out;have aX:=a2.out.fr (base:=base) (Fr.AL au);obtain⟨F,a4⟩:=U (w.alloc (.cells #[.int .i64 an,.string ⟨ao.toArray⟩,.bool ap,.slice M N O,.slice W X aa,.slice ab ac ad,.slice ae af ag,.slice ah ai aj] 32));rw[a4]at au az aM aX G bA⊢;clear a4 d0 d1 d2 lb bq;obtain⟨_,d1,_⟩:=az.cells;rw[ak.out]at d1 aM;have lb:=Y.lt az.BF;have aq:=Y.lt G.out;have a5:F.cell? ⟨w.heap.size,0,none⟩=some (.int .i64 an):=Y.cell G.out 0;have a6:F.cell? ⟨w.heap.size,1,none⟩=some (.string ⟨ao.toArray⟩):=Y.cell G.out 1;have a7:F.cell? ⟨w.heap.size,2,none⟩=some (.bool ap):=Y.cell G.out 2;have a8:F.cell? ⟨w.heap.size,3,none⟩=some (.slice M N O):=Y.cell G.out 3;have a9:F.cell? ⟨w.heap.size,4,none⟩=some (.slice W X aa):=Y.cell G.out 4;have a':F.cell? ⟨w.heap.size,5,none⟩=some (.slice ab ac ad):=Y.cell G.out 5;have ba:F.cell? ⟨w.heap.size,6,none⟩=some (.slice ae af ag):=Y.cell G.out 6;have bb:F.cell? ⟨w.heap.size,7,none⟩=some (.slice ah ai aj):=Y.cell G.out 7;have aN:=Z au;have aO:=Z az;have aP:=Z aM;have bM:=Z aX;clear au az aM aX;refine C8 [0,1,2,3,4,5] [6,7,8,9,10] (by kernel_rfl) (by kernel_rfl) (fun al=>al.cell? ⟨rb,1,none⟩=some (.slice aU I aV)/\al.cell? ⟨w.heap.size,0,none⟩=some (.int .i64 an)/\al.cell? ⟨w.heap.size,1,none⟩=some (.string ⟨ao.toArray⟩)/\al.cell? ⟨w.heap.size,2,none⟩=some (.bool ap)/\al.cell? ⟨w.heap.size,3,none⟩=some (.slice M N O)/\al.cell? ⟨w.heap.size,4,none⟩=some (.slice W X aa)/\al.cell? ⟨w.heap.size,5,none⟩=some (.slice ab ac ad)/\al.cell? ⟨w.heap.size,6,none⟩=some (.slice ae af ag)/\al.cell? ⟨w.heap.size,7,none⟩=some (.slice ah ai aj)) ⟨d1,a5,a6,a7,a8,a9,a',ba,bb⟩ ?_;simp only[pick,List.getElem?_cons_zero,List.getElem?_cons_succ];refine AR ?_ (by rfl) ?_ ?_;rotate_left
 ·(intro aw K;obtain⟨aA,aB,aC,aD,aE,aF,aG,aH,aI⟩:=K;go_simp;try with_reducible rfl)
 simp only[Act.put,BH,BI,BJ];refine AR ?_ (by rfl) ?_ ?_;rotate_left
 ·(intro aw K;obtain⟨aA,aB,aC,aD,aE,aF,aG,aH,aI⟩:=K;go_simp;try with_reducible rfl)
 simp only[Act.put,BH,BI,BJ];refine AR ?_ (by rfl) ?_ ?_;rotate_left
 ·(intro aw K;obtain⟨aA,aB,aC,aD,aE,aF,aG,aH,aI⟩:=K;go_simp;try with_reducible rfl)
 simp only[Act.put,BH,BI,BJ];refine AR ?_ (by rfl) ?_ ?_;rotate_left
 ·(intro aw K;obtain⟨aA,aB,aC,aD,aE,aF,aG,aH,aI⟩:=K;go_simp;try with_reducible rfl)
 simp only[Act.put,BH,BI,BJ];refine AR ?_ (by rfl) ?_ ?_;rotate_left
 ·(intro aw K;obtain⟨aA,aB,aC,aD,aE,aF,aG,aH,aI⟩:=K;go_simp;try with_reducible rfl)
 simp only[Act.put,BH,BI,BJ];refine AR ?_ (by rfl) ?_ ?_;rotate_left
 ·(intro aw K;obtain⟨aA,aB,aC,aD,aE,aF,aG,aH,aI⟩:=K;go_simp;try with_reducible rfl)
 simp only[Act.put,BH,BI,BJ];refine CV ?_;refine Ag fun bB bc=>?_
 refine Aa (.slice (some ⟨F.heap.size,0,none⟩) 1 1) (F.drew.alloc (.cells #[.int .i64 an,.string ⟨ao.toArray⟩,.bool ap,.slice M N O,.slice W X aa,.slice ab ac ad,.slice ae af ag,.slice ah ai aj] 32)) (by rfl) (by go_simp) ?_;have z:=AF (Ah (AB F none)) (.cells #[.int .i64 an,.string ⟨ao.toArray⟩,.bool ap,.slice M N O,.slice W X aa,.slice ab ac ad,.slice ae af ag,.slice ah ai aj] 32);refine bc.out _ _ ⟨AH z lb d1,AH z aq a5,AH z aq a6,AH z aq a7,AH z aq a8,AH z aq a9,AH z aq a',AH z aq ba,AH z aq bb⟩ ?_;simp only[Act.put,BH,BI,BJ];refine Ag fun bC bd=>?_
 refine Aq (by rfl) (.tmp 9) (.tmp 11) 22 22 (by rfl) 32 (.agg #[.int .i64 0,.string ⟨#[]⟩,.bool false,.slice none 0 0,.slice none 0 0,.slice none 0 0,.slice none 0 0,.slice none 0 0]) 8 152 underlying22 LC rfl (.slice aU I aV) I bo 0 _ 1 _ (by rfl) (by rfl) (Bl z aP.out) (by omega) (bs.out F.drew _ rfl) (by unfold maxLen;omega) (by omega) ?_;intro bN ar aQ aJ be _;obtain⟨ax,ay,rfl,_,_⟩:=aQ.form;have J:=Y.Bo (Y.grown aO.out.BF z (by simp)) aJ (fun e=>by
  have:=((Bl z aP.out).AO e).uniq (Y.grown aO.out.BF z (by simp)).AO;exact Aj this (by decide))
 have h:=Y.Bo (Y.grown G.out z (by simp)) aJ (fun e=>by have:=a3.out.lt (by rw[ak.out];exact e);omega);have aR:Fr base F ar:=(Fr.AL z).trans (Az.mono aJ (fun k hk e=>⟨L.out.new k (by rw[ak.out];exact e),.inr ((Bl z aP.out).AO e)⟩));refine bd.out _ _ ⟨(Y.cell J 1).trans (by rw[ak.out];rfl),Y.cell h 0,Y.cell h 1,Y.cell h 2,Y.cell h 3,Y.cell h 4,Y.cell h 5,Y.cell h 6,Y.cell h 7⟩ ?_;simp only[Act.put,BH,BI,BJ];refine Ag fun K3 bf=>?_
 refine Aa (.pointer (some ⟨rb,0,none⟩)) ar (by rfl) (by go_simp) ?_;refine bf.out _ _ ⟨(Y.cell J 1).trans (by rw[ak.out];rfl),Y.cell h 0,Y.cell h 1,Y.cell h 2,Y.cell h 3,Y.cell h 4,Y.cell h 5,Y.cell h 6,Y.cell h 7⟩ ?_;simp only[Act.put,BH,BI,BJ];refine Ag fun bD bg=>?_
 refine Aa (.pointer (some ⟨rb,1,none⟩)) ar (by rfl) (by go_simp) ?_;refine bg.out _ _ ⟨(Y.cell J 1).trans (by rw[ak.out];rfl),Y.cell h 0,Y.cell h 1,Y.cell h 2,Y.cell h 3,Y.cell h 4,Y.cell h 5,Y.cell h 6,Y.cell h 7⟩ ?_;simp only[Act.put,BH,BI,BJ];refine CR ?_;have bO:=Y.frozen J 1;have bP:ar.cell? ⟨rb,1,none⟩=some (.slice aU I aV):=(Y.cell J 1).trans (by rw[ak.out];rfl);have bQ:=Y.lt J;have bh:=Ct.add bt.out br.out (by rw[ak.out];exact aQ) ((Fr.AL aN.out).trans aR) a2.out;have bE:(Value.slice ax (I+1) ay).ownBlock≠some rb:=fun e=>by
  have:=(aQ.AO e).uniq J.AO;exact Aj this (by decide)
 have aY:=(Bl z aO.out.tok).Bo aJ (fun g bF e=>by
  have:=((Bl z aO.out.tok).AO bF).uniq ((Bl z aP.out).AO e);exact Aj this (by decide))
 have bi:∀b,(Value.slice ax (I+1) ay).ownBlock=some b->base b:=fun b aW=>by
  rcases be b aW with e|e
  ·exact L.out.new b (by rw[ak.out];exact e)
  ·have bG:=z.size;have bH:=aN.out.size;exact L.out.lo.up b (by omega)
 have bj:aZ.ownBlock≠some rb:=fun e=>by
  have:=(aY.AO e).uniq J.AO;exact Aj this (by decide)
 have bk:CB av base (ar.setCell ⟨rb,1,none⟩ (.slice ax (I+1) ay)) rb aZ (.slice ax (I+1) ay) ts (ns++[⟨an,ao,ap,bu,bv,bw,bx,bz⟩]) d:=
  ⟨Y.AW J 1 _,aY.Bi (p:=⟨rb,1,none⟩) bj _,bh.Bi (p:=⟨rb,1,none⟩) L.out.lo.at_ J.AO,bi,L.out.lo.size (by have bG:=aN.out.size;have bH:=aR.size;rw[World.size_setCell];omega),L.out.Ak,by rw[BG,Cj];exact bn,L.out.dep,L.out.Lc⟩
 have bl:Fr base w (ar.setCell ⟨rb,1,none⟩ (.slice ax (I+1) ay)):=((Fr.AL aN.out).trans aR).set (p:=⟨rb,1,none⟩) L.out.lo.at_ (.inl J.AO) _;have aS:=Z bk;have bm:=Z bl;clear bk bl bi bE aY bh bj aR h aQ aJ be z bc bd bf bg bB bC K3 bD;clear J;go_wp2
 refine NoPanic.normal ?_;obtain⟨_,bI,_⟩:=aS.out.cells;have bJ:=Y.lt aS.out.BF;generalize ar.setCell ⟨rb,1,none⟩ (.slice ax (I+1) ay)=aw at aS bm bI bJ⊢;go_wp2_with fail;go_ret;exact⟨.int .i64 (I:Int),FL (by omega),rfl,⟨_,_,aS.out⟩,bm.out⟩
theorem CQ.EG{av:Nat->Prop}{base:Nat->Prop}{rb d:Nat}{w:World}{ts:List AY}{ns:List V}(h:CQ av base w rb ts ns d):ns.length+10*ts.length<=100000:=by
 obtain⟨z,F,h⟩:=h;exact h.EG
theorem Pb{w w':World}{t:AY}(z:(w.alloc (.cells #[.int .i64 t.k,.string ⟨t.t.toArray⟩,.int .i64 t.a] 69)).grownBy w' none):w'.cell? ⟨w.heap.size,0,none⟩=some (.int .i64 t.k)/\w'.cell? ⟨w.heap.size,1,none⟩=some (.string ⟨t.t.toArray⟩)/\w'.cell? ⟨w.heap.size,2,none⟩=some (.int .i64 t.a)/\w.heap.size<w'.heap.size:=by
 have h:=Y.grown (Y.new w 69 #[.int .i64 t.k,.string ⟨t.t.toArray⟩,.int .i64 t.a]) z (by simp);exact⟨Y.cell h 0,Y.cell h 1,Y.cell h 2,Y.lt h⟩
theorem Ab(av:Nat->Prop)(base:Nat->Prop)(rb d:Nat)(ts:List AY)(ns:List V)(w:World)(F:CQ av base w rb ts ns d):
  Calls prog 65 #[.pointer (some ⟨rb,0,none⟩)] w fun e w'=>e=.returned (.bool (BZ ts))/\w.grownBy w' none:=by
 obtain⟨aI,aJ,F⟩:=F;obtain⟨t,r,g,aK,aL,rfl,rfl,ar,aM,au,aw,ax⟩:=F.head;obtain⟨d0,d1,d2⟩:=F.cells;have lb:=Y.lt F.BF;have ay:(0:Int)<(((t::r).length:Nat):Int):=(by simp only[BR];omega);have az:=Z F;have aA:=Z (F.Lc t (En ..));obtain⟨aN,ae⟩:=U ((t::r).length);rw[ae]at d0 ay ar;clear F ae;have h:=Z (show BZ (t::r)=(Fj t||FO t||t.k==3||(t.k==1&&(t.t==Da||t.t==F1||!Df t.t)))from rfl);have K:=Z (fun J=>Ga t J);have L:=Z (fun J=>I5 t J);have M:=Z (fun J=>Hq t.t J);obtain⟨B,af⟩:=U (BZ (t::r));rw[af]at h⊢;obtain⟨aB,ag⟩:=U (Fj t);obtain⟨aC,ah⟩:=U (FO t);obtain⟨ai,aj⟩:=U (Df t.t);rw[ag]at h K;rw[ah]at h L;rw[aj]at h M;clear af ag ah aj aA az;obtain⟨z,G,ak⟩:=t;simp only[]at au aw ax h M;unfold GY sv at K L;unfold sv at M;simp only[]at K L;go_enter func65,ntmps65;go_wp2_with fail;refine(K.out _).mono ?_;rintro e aO ⟨rfl,N⟩;have ab:=Pb (t:=⟨z,G,ak⟩) N;obtain⟨O,W,X,al⟩:=ab;simp only[]at O W X;have am:=Z (AI (AF (AB w none) _) N);have an:=Z N;clear N;cases aB with
 |true=>
  go_wp2_with fail;go_ret;exact⟨An (a:=true) (by rw[h.out];rfl),am.out⟩
 |false=>
  go_wp2_with fail;refine(L.out _).mono ?_;rintro e aP ⟨rfl,aa⟩;have ab:=Pb (t:=⟨z,G,ak⟩) (AI an.out aa);clear O W X al;obtain⟨O,W,X,al⟩:=ab;simp only[]at O W X;have I:=Z (AI am.out aa);have aQ:=Z (AI an.out aa);clear aa;cases aC with
  |true=>
   go_wp2_with fail;go_ret;exact⟨An (a:=true) (by rw[h.out];rfl),I.out⟩
  |false=>
   by_cases ao:z=3
   ·subst ao;go_wp2_with fail;go_ret;exact⟨An (a:=true) (by rw[h.out];rfl),I.out⟩
   ·have aR:((z:Int)==3)=false:=(by rw[A4];omega);have aD:=Z (show(z==3)=false by rw[A4];exact ao);by_cases ap:z=1
    ·subst ap;by_cases ac:G=[33]
     ·subst ac;go_wp2_with fail;go_ret;exact⟨An (a:=true) (by rw[h.out];rfl),I.out⟩
     ·have aq:(G==[33])=false:=Bd ac;by_cases ad:G=[105,110]
      ·subst ad;go_wp2_with fail;go_ret;exact⟨An (a:=true) (by rw[h.out];rfl),I.out⟩
      ·have aE:(G==[105,110])=false:=Bd ad;have aF:=Z (show B=!ai by rw[h.out];unfold Da F1;rw[aq,aE];simp);clear ac ad;go_wp2_with fail;refine(M.out _).mono ?_;rintro e aS ⟨rfl,aG⟩;go_wp2_with fail;go_ret;exact⟨An (a:=!ai) (by rw[aF.out]),AI I.out aG⟩
    ·have aq:((z:Int) !=1)=true:=(by rw[bne_iff_ne];omega);have aT:((z:Int)==1)=false:=(by rw[A4];omega);have aH:=Z (show(z==1)=false by rw[A4];exact ap);go_wp2_with fail;go_ret;exact⟨An (a:=false) (by rw[h.out,aD.out,aH.out];rfl),I.out⟩
theorem Jk(x y h:Value)(w:World):(Instr.field 69 (.agg #[x,y,h]) 1).run prog w=.ok y w:=by kernel_rfl
theorem RW(av:Nat->Prop)(base:Nat->Prop)(rb d:Nat)(z:Value)(ts:List AY)(ns:List V)(w:World)(h:EU av base w rb z ts ns d):
  Calls prog 132 #[.pointer (some ⟨rb,0,none⟩)] w (Br QA av base w rb z d (Ea ts ns)):=by
 obtain⟨ai,h⟩:=h;obtain⟨t,r,g,J,K,rfl,rfl,W,aj,X,aa,ab⟩:=h.head;obtain⟨d0,d1,d2⟩:=h.cells;have lb:=Y.lt h.BF;have ac:(0:Int)<(((t::r).length:Nat):Int):=(by simp only[BR];omega);have L:=Z h;have ak:=Z (h.Lc t (En ..));obtain⟨al,M⟩:=U ((t::r).length);rw[M]at d0 ac W;clear h M;have G:=Z (fun F (I:CB av base F rb (.slice (some ⟨g,J,none⟩) (t::r).length K) z (t::r) ns d) (hk:t.k≠4)=>Et av base rb d _ z t r ns F I hk);have ad:=Z (fun F (I:CB av base F rb (.slice (some ⟨g,J,none⟩) (t::r).length K) z (t::r) ns d)=>F0 av base rb d _ z t r ns F I);unfold Ea;simp only[];unfold Br IX GY at G;by_cases hk:t.k=1
 ·rw[Ai hk];unfold Br QA;simp only[];obtain⟨am,an,ao⟩:=t;simp only[]at hk X aa ab G⊢;subst hk;unfold sv at G⊢;have ap:=Jk;go_enter func132,ntmps132;go_wp2_with fail;refine(G.out _ L.out (by simp)).mono ?_;rintro e ae ⟨v,rfl,rfl,N,O⟩;have af:=Z N;have ag:=Z O;clear N O;go_wp2_with fail;go_ret;exact⟨_,rfl,rfl,af.out,ag.out⟩
 ·rw[AP hk];unfold A3 Br;simp only[];have aq:((t.k:Int) !=1)=true:=(by rw[bne_iff_ne];omega);go_enter func132,ntmps132;go_wp2_with fail;refine(ad.out _ L.out).mono ?_;rintro e ae ⟨rfl,ah⟩;exact AS rfl ⟨rfl,DO ah⟩
end Go.Proofs.YtdhfhphbkfgamaaGreat
