/- PrintTells: a part of its proof. -/
import Derived.Deep.LoopGhost
import Derived.Test.YtdhfhphbkfgamaaGreatPc
set_option maxRecDepth 100000
set_option maxHeartbeats 64000000
namespace Go.Proofs.YtdhfhphbkfgamaaGreat
section
open Go.RowKit Lx
theorem Am {a b:Bool} (h:a=b):Ending.returned (.bool a)=.returned (.bool b):=by rw[h]
theorem E3 {a b:Int} (h:a=b):Ending.returned (.int .i64 a)=.returned (.int .i64 b):=by rw[h]
theorem Z0M {P:Prop} (h:P:=by
 go_wp2_with fail;go_ret;exact⟨Am (a:=false) (by rw[J.out];simp only[ad.out,Bool.false_and]),AB w none⟩):P:=h
theorem Z0N {P:Prop} (h:P:=by
 go_wp2_with fail;go_ret;exact⟨Am (a:=ac==s) (by rw[J.out];simp),AB w none⟩):P:=h
theorem Hz (av:Nat→Prop) (base:Nat→Prop) (rb d:Nat) (L M:Value) (ts:List AX) (ns:List V) (s:List UInt8) (w:World) (h:B8 av base w rb L M ts ns d):
  Calls Tryz.prog 60 #[.pointer (some ⟨rb,0,none⟩),sv s] w fun e w'=>e=.returned (.bool (Dn ts s))∧w.grownBy w' none:=by
 obtain⟨t,r,g,ae,af,rfl,rfl,N,ag,O,W,X⟩:=h.head;obtain⟨aa,ah,ai⟩:=h.cells;have lb:=Y.lt h.BD;have ab:(0:Int)<(((t::r).length:Nat):Int):=(by simp only[BP];omega);have F:Dn (t::r) s=(t.k==2&&t.t==s):=rfl;obtain⟨G,I⟩: ∃G,(t::r).length=G:=⟨_,rfl⟩;rw[I]at aa ab N;have J:=Z F;clear h F I;obtain⟨z,ac,aj⟩:=t;simp only[]at O W X;unfold sv;by_cases hk:z=2
 ·subst hk;go_enter Tryz.func60,Tryz.ntmps60;exact Z0N
 ·have q:((z:Int)==2)=false:=(by rw[beq_eq_false_iff_ne];omega);have K:(z==2)=false:=(by rw[beq_eq_false_iff_ne];exact hk);have ad:=Z K;clear K;go_enter Tryz.func60,Tryz.ntmps60;exact Z0M
theorem JE (av:Nat→Prop) (base:Nat→Prop) (rb d:Nat) (L M:Value) (ts:List AX) (ns:List V) (s:List UInt8) (w:World) (h:B8 av base w rb L M ts ns d):
  Calls Tryz.prog 82 #[.pointer (some ⟨rb,0,none⟩),sv s] w fun e w'=>e=.returned (.bool (Fl ts s))∧w.grownBy w' none:=by
 obtain⟨t,r,g,ae,af,rfl,rfl,N,ag,O,W,X⟩:=h.head;obtain⟨aa,ah,ai⟩:=h.cells;have lb:=Y.lt h.BD;have ab:(0:Int)<(((t::r).length:Nat):Int):=(by simp only[BP];omega);have F:Fl (t::r) s=(t.k==1&&t.t==s):=rfl;obtain⟨G,I⟩: ∃G,(t::r).length=G:=⟨_,rfl⟩;rw[I]at aa ab N;have J:=Z F;clear h F I;obtain⟨z,ac,aj⟩:=t;simp only[]at O W X;unfold sv;by_cases hk:z=1
 ·subst hk;go_enter Tryz.func82,Tryz.ntmps82;exact Z0N
 ·have q:((z:Int)==1)=false:=(by rw[beq_eq_false_iff_ne];omega);have K:(z==1)=false:=(by rw[beq_eq_false_iff_ne];exact hk);have ad:=Z K;clear K;go_enter Tryz.func82,Tryz.ntmps82;exact Z0M
theorem R0: ∀n:Fin 256,bits .or .u8 (n.val:Int) 32=((n.val|||32:Nat):Int)∧(97≤n.val|||32∧n.val|||32≤122↔(97≤n.val∧n.val≤122)∨(65≤n.val∧n.val≤90)):=by decide+kernel
theorem Xl (c:UInt8): ∃h:Nat,bits .or .u8 (c.toNat:Int) 32=(h:Int)∧(97≤h∧h≤122↔(97≤c.toNat∧c.toNat≤122)∨(65≤c.toNat∧c.toNat≤90)):=⟨_,R0 ⟨c.toNat,c.toNat_lt⟩⟩
theorem Us {f:Bool} {c:UInt8} {r:List UInt8} (h:(Ep c||(!f&&GF c))=true):FY f (c::r)=FY false r+1:=by
 show(if _ then _ else _)=_;rw[Ah h]
theorem XI {f:Bool} {c:UInt8} {r:List UInt8} (h: ¬(Ep c||(!f&&GF c))=true):FY f (c::r)=0:=by
 show(if _ then _ else _)=_;rw[U h]
theorem Z0L {P:Prop} (h:P:=by
 by_cases ad:c.toNat=95
 ·have ae:((c.toNat:Int)==95)=true:=(by rw[beq_iff_eq];omega);have K:=Z (z (by rw[F.2 (.inr ad)];rfl));clear z h F;go_wp2_with fail;go_roundw;case rel=>exact⟨k+1,by go_num,by omega,K.out,trivial⟩
  case measure=>simp[intOf];omega
 have ae:((c.toNat:Int)==95)=false:=(by rw[beq_eq_false_iff_ne];omega);have L:Ep c=false:=by
  cases af:Ep c with
  |false=>rfl
  |true=>exact Ai (F.1 af) (by omega)
 by_cases W:k=0
 ·subst W;have ag:decide ((0:Int)<((0:Nat):Int))=false:=(by decide);have I:=Z (h (by rw[L];simp));clear z h F;go_wp2_with fail;go_ret;exact⟨E3 (by rw[I.out]),rfl⟩
 have ag:decide ((0:Int)<(k:Int))=true:=At (by omega);have N:decide (k=0)=false:=Aq W;by_cases X:48≤c.toNat
 ·have ah:decide ((48:Int)≤(c.toNat:Int))=true:=At (by omega);by_cases aa:c.toNat≤57
  ·have ai:decide ((c.toNat:Int)≤57)=true:=At (by omega);have J:GF c=true:=At ⟨X,aa⟩;have K:=Z (z (by rw[L,N,J];rfl));clear z h F;go_wp2_with fail;go_roundw;case rel=>exact⟨k+1,by go_num,by omega,K.out,trivial⟩
   case measure=>simp[intOf];omega
  ·have ai:decide ((c.toNat:Int)≤57)=false:=Aq (by omega);have J:GF c=false:=Aq (fun G=>aa G.2);have I:=Z (h (by rw[L,N,J];simp));clear z h F;go_wp2_with fail;go_ret;exact⟨E3 (by rw[I.out]),rfl⟩
 ·have ah:decide ((48:Int)≤(c.toNat:Int))=false:=Aq (by omega);have J:GF c=false:=Aq (fun G=>X G.1);have I:=Z (h (by rw[L,N,J];simp));clear z h F;go_wp2_with fail;go_ret;exact⟨E3 (by rw[I.out]),rfl⟩):P:=h
theorem Na (s:List UInt8) (w:World) (hs:s.length≤9223372036854775807):Calls Tryz.prog 122 #[sv s] w fun e w'=>e=.returned (.int .i64 (FY true s))∧w'=w:=by
 have ax:=sz s;unfold sv;go_enter Tryz.func122,Tryz.ntmps122;go_wp2_with fail;go_loopw [7] (fun ab wr=> ∃k:Nat,ab=.int .i64 k∧k≤s.length∧FY true s=k+FY (decide (k=0)) (s.drop k)∧wr=w) (fun ab _=>s.length-(intOf ab).toNat);case atStart=>exact⟨0,rfl,DM _,by simp,rfl⟩
 case round=>
  obtain⟨k,rfl,hk,O,rfl⟩:=hrel;by_cases aj:k<s.length
  ·have an:decide ((k:Int)<(s.length:Int))=true:=At (by omega);have ao:=BC s k aj;have ay:(0:Int)≤k∧(k:Int)<(s.length:Int):=(by omega);have ac:=CC aj;obtain⟨c,ak⟩: ∃c,s[k]=c:=⟨_,rfl⟩;rw[ak]at ao ac;rw[ac]at O;obtain⟨M,az,al⟩:=Xl c;have z:(Ep c||(!decide (k=0)&&GF c))=true→FY true s=(k+1)+FY (decide (k+1=0)) (s.drop (k+1)):=fun G=>by
    rw[O,Us G,show decide (k+1=0)=false from rfl];omega
   have h: ¬(Ep c||(!decide (k=0)&&GF c))=true→FY true s=k:=fun G=>by
    rw[XI G]at O;omega
   have F:Ep c=true↔(97≤M∧M≤122)∨c.toNat=95:=by
    unfold Ep;simp only[Bool.or_eq_true,decide_eq_true_eq];rw[al]
   clear ak ac O al;by_cases ap:97≤M
   ·have aq:decide ((97:Int)≤(M:Int))=true:=At (by omega);by_cases ar:M≤122
    ·have au:decide ((M:Int)≤122)=true:=At (by omega);have K:=Z (z (by rw[F.2 (.inl ⟨ap,ar⟩)];rfl));clear z h F;go_wp2_with fail;go_roundw;case rel=>exact⟨k+1,by go_num,by omega,K.out,trivial⟩
     case measure=>simp[intOf];omega
    ·have au:decide ((M:Int)≤122)=false:=Aq (by omega);exact Z0L
   ·have aq:decide ((97:Int)≤(M:Int))=false:=Aq (by omega);exact Z0L
  ·obtain rfl:k=s.length:=by omega
   have an:decide ((s.length:Int)<(s.length:Int))=false:=Aq (by omega);have am:FY true s=s.length:=(by rw[O,List.drop_eq_nil_of_le (BL _)];show s.length+0=_;omega);clear O;have aw:=Z am;clear am;go_wp2_with fail;go_ret;exact⟨E3 (by rw[aw.out]),rfl⟩
end
section
open Go.RowKit Lx
theorem AR {P:Program} {fn:Func} {R:Ending→World→Prop} {a:Act} {w:World} {z:List PanicEntry} (F:a.defers=[]) (h:R (.panicked z) w):bodyPost P fn R (.panic z) a w:=by
 first
  |exact⟨F,h⟩
  |exact h
  |exact⟨h,F⟩
theorem Z0O {P:Prop} (h:P:=by
 go_enter Tryz.func85,Tryz.ntmps85;go_wp2_with fail;go_ret;exact⟨Am (a:=true) (by decide),AB w none⟩):P:=h
theorem Gd (s:List UInt8) (w:World):Calls Tryz.prog 85 #[sv s] w fun e w'=>e=.returned (.bool (DW s))∧w.grownBy w' none:=by
 unfold sv;by_cases h:s=[33]
 ·subst h;exact Z0O
 have ae:(s==[33])=false:=Ba h;by_cases z:s=[123]
 ·subst z;exact Z0O
 have af:(s==[123])=false:=Ba z;by_cases F:s=[125]
 ·subst F;exact Z0O
 have ag:(s==[125])=false:=Ba F;by_cases G:s=[99,97,115,101]
 ·subst G;exact Z0O
 have ah:(s==[99,97,115,101])=false:=Ba G;by_cases I:s=[100,111]
 ·subst I;exact Z0O
 have ai:(s==[100,111])=false:=Ba I;by_cases J:s=[100,111,110,101]
 ·subst J;exact Z0O
 have aj:(s==[100,111,110,101])=false:=Ba J;by_cases K:s=[101,108,105,102]
 ·subst K;exact Z0O
 have ak:(s==[101,108,105,102])=false:=Ba K;by_cases L:s=[101,108,115,101]
 ·subst L;exact Z0O
 have al:(s==[101,108,115,101])=false:=Ba L;by_cases M:s=[101,115,97,99]
 ·subst M;exact Z0O
 have am:(s==[101,115,97,99])=false:=Ba M;by_cases N:s=[102,105]
 ·subst N;exact Z0O
 have an:(s==[102,105])=false:=Ba N;by_cases O:s=[102,111,114]
 ·subst O;exact Z0O
 have ao:(s==[102,111,114])=false:=Ba O;by_cases W:s=[105,102]
 ·subst W;exact Z0O
 have ap:(s==[105,102])=false:=Ba W;by_cases X:s=[105,110]
 ·subst X;exact Z0O
 have aq:(s==[105,110])=false:=Ba X;by_cases aa:s=[116,104,101,110]
 ·subst aa;exact Z0O
 have ar:(s==[116,104,101,110])=false:=Ba aa;by_cases ab:s=[117,110,116,105,108]
 ·subst ab;exact Z0O
 have au:(s==[117,110,116,105,108])=false:=Ba ab;by_cases ac:s=[119,104,105,108,101]
 ·subst ac;exact Z0O
 have aw:(s==[119,104,105,108,101])=false:=Ba ac;have ad:DW s=false:=by
  unfold DW LD;simp only[List.contains_cons,List.contains_nil,Bool.or_false];simp only[DQ,F2,Cv,Fy,EA,BU,FN,FC,C7,Gr,I5,Oz,FZ,E8,DX,Dp,ae,af,ag,ah,ai,aj,ak,al,am,an,ao,ap,aq,ar,au,aw,Bool.or_false]
 have ax:=Z ad;clear ad;go_enter Tryz.func85,Tryz.ntmps85;go_wp2_with fail;go_ret;exact⟨Am (a:=false) (by rw[ax.out]),AB w none⟩
def Tu (w:World) (a:Option Addr) (h:List (List UInt8)):Prop:= ∀i (F:i<h.length),∃b z,a=some ⟨b,z,none⟩∧b<w.heap.size∧w.cell? ⟨b,z+i,none⟩=some (sv h[i])
def Qq (h:List (List UInt8)) (s:List UInt8) (w:World) (e:Ending) (w':World):Prop:= ∃n:Int,e=.returned (.int .i64 n)∧decide (0≤n)=h.contains s∧w'=w
theorem PZ (h:List (List UInt8)) (s:List UInt8) (a:Option Addr) (W:Nat) (w:World) (J:Tu w a h) (af:h.length≤1000000):
  Calls Tryz.prog 114 #[.slice a h.length W,sv s] w (Qq h s w):=by
 have X:=Z J;clear J;unfold sv;go_enter Tryz.func114,Tryz.ntmps114;go_wp2_with fail;go_loop [8] (fun I=> ∃k:Nat,I=.int .i64 k∧k≤h.length∧ ∀i (F:i<h.length),i<k→h[i]≠s) (fun I=>h.length-(intOf I).toNat)
 case atStart=>exact⟨0,rfl,DM _,fun i _ K=>Ai K (by omega)⟩
 case round=>
  obtain⟨k,rfl,hk,L⟩:=hrel;have M:=Z L;clear L;by_cases N:k<h.length
  ·have aa:decide ((k:Int)<(h.length:Int))=true:=At (by omega);have ag:(0:Int)≤k∧(k:Int)<(h.length:Int):=(by omega);obtain⟨ah,ai,rfl,aj,G⟩:=X.out k N;by_cases z:h[k]=s
   ·have ab:=Z (show decide ((0:Int)≤(k:Int))=h.contains s by rw[At (by omega)];symm;rw[List.contains_iff_mem];exact z▸List.getElem_mem N);rw[z]at G;unfold sv at G;have O:(s==s)=true:=(by simp);clear z;go_wp2_with fail;go_ret;exact⟨(k:Int),rfl,ab.out,rfl⟩
   ·have ac:=Z (fun i (F:i<h.length) (K:i<k+1)=>(if e:i=k then(by subst e;exact z)else M.out i F (by omega):h[i]≠s));have O:(s==h[k])=false:=Ba (fun e=>z e.symm);obtain⟨x,hx⟩: ∃x,h[k]=x:=⟨_,rfl⟩;rw[hx]at G O;unfold sv at G;clear hx z;go_wp2_with fail;go_round
    case rel=>exact⟨k+1,by go_num,by omega,ac.out⟩
    case measure=>simp[intOf];omega
  ·obtain rfl:k=h.length:=by omega
   have aa:decide ((h.length:Int)<(h.length:Int))=false:=Aq (by omega);have ad:=Z (show decide ((0:Int)≤ -1)=h.contains s by
    rw[show decide ((0:Int)≤ -1)=false from rfl];symm
    rw[←Bool.not_eq_true,List.contains_iff_mem];intro ae;obtain⟨i,F,z⟩:=List.getElem_of_mem ae;exact M.out i F F z)
   go_wp2_with fail;go_ret;exact⟨-1,rfl,ad.out,rfl⟩
theorem MS (h:List (List UInt8)) (s:List UInt8) (a:Option Addr) (F:Nat) (w:World) (G:Tu w a h) (K:h.length≤1000000):
  Calls Tryz.prog 98 #[.slice a h.length F,sv s] w fun e w'=>e=.returned (.bool (h.contains s))∧w'=w:=by
 have z:=Z (PZ h s a F w G K);clear G;unfold sv at z⊢;obtain⟨B,I⟩: ∃B,h.contains s=B:=⟨_,rfl⟩;unfold Qq at z;rw[I]at z⊢;clear I;go_enter Tryz.func98,Tryz.ntmps98;go_wp2_with fail;refine z.out.mono ?_;rintro e M ⟨n,rfl,J,rfl⟩;have L:=Z J;clear J;go_wp2_with fail;go_ret;exact⟨Am L.out,rfl⟩
def F8 (t:AX):Value:=.agg #[.int .i64 t.k,sv t.t,.int .i64 t.a]
theorem Z0P {P:Prop} (h:P:=by
 go_enter Tryz.func83,Tryz.ntmps83;go_wp2_with fail;go_ret;exact⟨Am (a:=false) (by rw[z.out,G.out]),AF (AB w none) _⟩):P:=h
theorem Z0Q {P:Prop} (h:P:=by
 go_enter Tryz.func83,Tryz.ntmps83;go_wp2_with fail;go_ret;exact⟨Am (a:=true) (by rw[z.out];rfl),AF (AB w none) _⟩):P:=h
theorem GC (t:AX) (w:World):Calls Tryz.prog 83 #[F8 t] w fun e w'=>e=.returned (.bool (FG t))∧w.grownBy w' none:=by
 obtain⟨h,s,X⟩:=t;have z:=Z (show FG ⟨h,s,X⟩=((h==2&&s==Bv)||(h==1&&FH.contains s))from rfl);unfold F8 sv;by_cases I:s=[40]
 ·subst I;by_cases hk:h=2
  ·subst hk;exact Z0Q
  ·have q:((h:Int)==2)=false:=(by rw[beq_eq_false_iff_ne];omega);have F:=Z (show(h==2)=false by rw[beq_eq_false_iff_ne];exact hk);have G:=Z (show((h==2&&[40]==Bv)||(h==1&&FH.contains [40]))=false by rw[show FH.contains [40]=false from rfl,F.out];simp);exact Z0P
 have aa:(s==[40])=false:=Ba I;by_cases J:s=[123]
 ·subst J;by_cases hk:h=1
  ·subst hk;exact Z0Q
  ·have q:((h:Int)==1)=false:=(by rw[beq_eq_false_iff_ne];omega);have F:=Z (show(h==1)=false by rw[beq_eq_false_iff_ne];exact hk);have G:=Z (show((h==2&&[123]==Bv)||(h==1&&FH.contains [123]))=false by rw[show([123]==Bv)=false from rfl,F.out];simp);exact Z0P
 have ab:(s==[123])=false:=Ba J;by_cases K:s=[105,102]
 ·subst K;by_cases hk:h=1
  ·subst hk;exact Z0Q
  ·have q:((h:Int)==1)=false:=(by rw[beq_eq_false_iff_ne];omega);have F:=Z (show(h==1)=false by rw[beq_eq_false_iff_ne];exact hk);have G:=Z (show((h==2&&[105,102]==Bv)||(h==1&&FH.contains [105,102]))=false by rw[show([105,102]==Bv)=false from rfl,F.out];simp);exact Z0P
 have ac:(s==[105,102])=false:=Ba K;by_cases L:s=[119,104,105,108,101]
 ·subst L;by_cases hk:h=1
  ·subst hk;exact Z0Q
  ·have q:((h:Int)==1)=false:=(by rw[beq_eq_false_iff_ne];omega);have F:=Z (show(h==1)=false by rw[beq_eq_false_iff_ne];exact hk);have G:=Z (show((h==2&&[119,104,105,108,101]==Bv)||(h==1&&FH.contains [119,104,105,108,101]))=false by rw[show([119,104,105,108,101]==Bv)=false from rfl,F.out];simp);exact Z0P
 have ad:(s==[119,104,105,108,101])=false:=Ba L;by_cases M:s=[117,110,116,105,108]
 ·subst M;by_cases hk:h=1
  ·subst hk;exact Z0Q
  ·have q:((h:Int)==1)=false:=(by rw[beq_eq_false_iff_ne];omega);have F:=Z (show(h==1)=false by rw[beq_eq_false_iff_ne];exact hk);have G:=Z (show((h==2&&[117,110,116,105,108]==Bv)||(h==1&&FH.contains [117,110,116,105,108]))=false by rw[show([117,110,116,105,108]==Bv)=false from rfl,F.out];simp);exact Z0P
 have ae:(s==[117,110,116,105,108])=false:=Ba M;by_cases N:s=[102,111,114]
 ·subst N;by_cases hk:h=1
  ·subst hk;exact Z0Q
  ·have q:((h:Int)==1)=false:=(by rw[beq_eq_false_iff_ne];omega);have F:=Z (show(h==1)=false by rw[beq_eq_false_iff_ne];exact hk);have G:=Z (show((h==2&&[102,111,114]==Bv)||(h==1&&FH.contains [102,111,114]))=false by rw[show([102,111,114]==Bv)=false from rfl,F.out];simp);exact Z0P
 have af:(s==[102,111,114])=false:=Ba N;by_cases O:s=[99,97,115,101]
 ·subst O;by_cases hk:h=1
  ·subst hk;exact Z0Q
  ·have q:((h:Int)==1)=false:=(by rw[beq_eq_false_iff_ne];omega);have F:=Z (show(h==1)=false by rw[beq_eq_false_iff_ne];exact hk);have G:=Z (show((h==2&&[99,97,115,101]==Bv)||(h==1&&FH.contains [99,97,115,101]))=false by rw[show([99,97,115,101]==Bv)=false from rfl,F.out];simp);exact Z0P
 have ag:(s==[99,97,115,101])=false:=Ba O;have W:((h==2&&s==Bv)||(h==1&&FH.contains s))=false:=by
  unfold FH;simp only[List.contains_cons,List.contains_nil,Bool.or_false];simp only[F2,Oz,Dp,DX,I5,Fy,Bv,aa,ab,ac,ad,ae,af,ag,Bool.and_false,Bool.or_false]
 have ah:=Z W;clear W;go_enter Tryz.func83,Tryz.ntmps83;go_wp2_with fail;go_ret;exact⟨Am (a:=false) (by rw[z.out,ah.out]),AF (AB w none) _⟩
theorem Fa (av:Nat→Prop) (base:Nat→Prop) (rb d:Nat) (I J:Value) (t:AX) (r:List AX) (ns:List V) (w:World) (h:B8 av base w rb I J (t::r) ns d):
  Calls Tryz.prog 31 #[.pointer (some ⟨rb,0,none⟩)] w fun e w'=>e=.panicked [Fk t.a (if t.k=4 then 23 else 17)]∧w.grownBy w' none:=by
 obtain⟨ac,ad,g,ae,af,K,rfl,L,ag,M,N,O⟩:=h.head;injection K with W X;subst W X;obtain⟨aa,ah,ai⟩:=h.cells;have lb:=Y.lt h.BD;have ab:(0:Int)<(((t::r).length:Nat):Int):=(by simp only[BP];omega);obtain⟨z,F⟩: ∃z,(t::r).length=z:=⟨_,rfl⟩;rw[F]at aa ab L;clear h F;obtain⟨G,aj,ak⟩:=t;simp only[]at M N O;unfold Fk;by_cases hk:G=4
 ·subst hk;go_enter Tryz.func31,Tryz.ntmps31;go_wp2_with fail;exact AR rfl ⟨rfl,AF (AB w none) _⟩
 ·have q:((G:Int)==4)=false:=(by rw[beq_eq_false_iff_ne];omega);go_enter Tryz.func31,Tryz.ntmps31;go_wp2_with fail;exact AR rfl ⟨by simp only[hk,if_false],AF (AB w none) _⟩
end
section
open Go.RowKit Lx
theorem Ie (t:AX) (w:World):Calls Tryz.prog 84 #[F8 t] w fun e w'=>e=.returned (.bool (FA t))∧w.grownBy w' none:=by
 obtain⟨z,F,M⟩:=t;have K:FA ⟨z,F,M⟩=(z==2&&Fv.contains F):=rfl;have I:=Z K;have G:=Z (fun h a N (O:Tu h a Fv)=>MS Fv F a N h O (by decide));have W:=Z (fun(h:World) (b:Nat) (X:h.heap.size=b)=>(show Tu (h.alloc (.cells #[.string ⟨#[60]⟩,.string ⟨#[62]⟩,.string ⟨#[62,62]⟩,.string ⟨#[60,38]⟩,.string ⟨#[62,38]⟩,.string ⟨#[60,62]⟩,.string ⟨#[62,124]⟩] 9)) (some ⟨b,0,none⟩) Fv by
  subst X;intro i J;refine⟨h.heap.size,0,rfl,by rw[World.size_alloc];omega,?_⟩;have aa:=Y.new h 9 #[.string ⟨#[60]⟩,.string ⟨#[62]⟩,.string ⟨#[62,62]⟩,.string ⟨#[60,38]⟩,.string ⟨#[62,38]⟩,.string ⟨#[60,62]⟩,.string ⟨#[62,124]⟩];rw[Nat.zero_add,Y.cell aa];have J:i<7:=J;match i,J with
  |0,_=>rfl
  |1,_=>rfl
  |2,_=>rfl
  |3,_=>rfl
  |4,_=>rfl
  |5,_=>rfl
  |6,_=>rfl))
 obtain⟨B,L⟩: ∃B,Fv.contains F=B:=⟨_,rfl⟩;rw[L]at G I;unfold sv at G;rw[show(Fv.length:Nat)=7 from rfl]at G;clear K L;unfold F8 sv;by_cases hk:z=2
 ·subst hk;go_enter Tryz.func84,Tryz.ntmps84;go_wp2_with fail;refine(G.out _ _ _ (W.out _ _ (World.size_alloc _ _))).mono ?_;rintro e ac ⟨rfl,rfl⟩;go_wp2_with fail;go_ret;exact⟨Am (a:=B) (by rw[I.out];simp),AF (AF (AB w none) _) _⟩
 ·have q:((z:Int)==2)=false:=(by rw[beq_eq_false_iff_ne];omega);have ab:=Z (show(z==2)=false by rw[beq_eq_false_iff_ne];exact hk);go_enter Tryz.func84,Tryz.ntmps84;go_wp2_with fail;go_ret;exact⟨Am (a:=false) (by rw[I.out,ab.out];rfl),AF (AB w none) _⟩
theorem Lt (t:AX) (w:World) (hs:t.t.length≤9223372036854775807):Calls Tryz.prog 110 #[F8 t] w fun e w'=>e=.returned (.bool (CB t))∧w.grownBy w' none:=by
 obtain⟨h,s,I⟩:=t;have z:=Z (show CB ⟨h,s,I⟩=(h==1&&FY true s==s.length)from rfl);have F:=Z (fun K=>Na s K hs);have M:=sz s;unfold F8;unfold sv at F⊢;obtain⟨n,J⟩: ∃n,FY true s=n:=⟨_,rfl⟩;rw[J]at z F;clear J;have G:=Z (Y.new w 69 #[.int .i64 h,.string ⟨s.toArray⟩,.int .i64 I]);have lb:=Y.lt G.out;have N:=Y.cell G.out 0;have O:=Y.cell G.out 1;by_cases hk:h=1
 ·subst hk;go_enter Tryz.func110,Tryz.ntmps110;go_wp2_with fail;go_quiet ((go_at_call 122;exact Calls.quiet_of_same (F.out _)));go_wp2_with fail;go_ret;exact⟨Am (a:=((n:Int)==(s.length:Int))) (by rw[z.out,Bool.eq_iff_iff];first|(simp;done)|(simp;omega)),As (AF (AB w none) _) _⟩
 ·have q:((h:Int)==1)=false:=(by rw[beq_eq_false_iff_ne];omega);have L:=Z (show(h==1)=false by rw[beq_eq_false_iff_ne];exact hk);go_enter Tryz.func110,Tryz.ntmps110;go_wp2_with fail;go_quiet (fail);go_wp2_with fail;go_ret;exact⟨Am (a:=false) (by rw[z.out,L.out];rfl),As (AF (AB w none) _) _⟩
end
section
open Go.RowKit Lx
section
variable {av:Nat→Prop} {base:Nat→Prop} {rb d:Nat} {w w':World} {vt vn:Value} {ts:List AX} {ns:List V}
theorem Cm.Be {v u:Value} {p:Addr} (F:Cm av w v ns) (G:base p.block) (h:Bk w p.block 65):Cm av (w.setCell p u) v ns:=by
 obtain⟨I,z,J⟩:=F;have K:Fr base w (w.setCell p u):=(Fr.refl base w).set G (.inl h) u;refine⟨I,z.Be (fun e=>?_) u,fun i L=>?_⟩
 ·have:=(z.AN e).uniq h;exact Ai this (by decide)
 ·obtain⟨x,y,r,M,k,e,N⟩:=J i L;exact⟨x,y,r,M,k,e,N.fr K⟩
theorem B8.step {t:AX} {r:List AX} {g z F G:Nat} (h:B8 av base w rb (.slice (some ⟨g,z,none⟩) F G) vn (t::r) ns d) (J:(t::r).length=F) (hk:t.k≠4):
  B8 av base (w.setCell ⟨rb,0,none⟩ (.slice (some ⟨g,z+3,none⟩) (F-1) (G-1))) rb (.slice (some ⟨g,z+3,none⟩) (F-1) (G-1)) vn r ns d:=by
 subst J;have I:=Own.from_ h.tok 1 (by simp);have K:(JK (t::r)).drop (1*3)=JK r:=rfl;rw[K]at I;have L:(t::r).length-1=r.length:=rfl;rw[L]at I⊢;have M:(Value.slice (some ⟨g,z+3,none⟩) r.length (G-1)).ownBlock≠some rb:=fun e=>by
  have:=(Own.AN (w:=w) I e).uniq h.BD.AN;exact Ai this (by decide)
 refine⟨Y.AV h.BD 0 _,(I.mono (DM _)).Be (p:=⟨rb,0,none⟩) M _,h.Mo.Be (p:=⟨rb,0,none⟩) h.lo.at_ h.BD.AN,h.new,h.lo.size (by rw[World.size_setCell];exact BL _),h.Aj.tail hk,?_,h.dep,fun x hx=>h.Kx x (List.mem_cons_of_mem _ hx)⟩;have:=h.Dy;simp only[BP]at this;omega
theorem B8.SS (h:B8 av base w rb vt vn ts ns d) (j:Nat) (u:Value):Fr base w (w.setCell ⟨rb,j,none⟩ u):=(Fr.refl base w).set (p:=⟨rb,j,none⟩) h.lo.at_ (.inl h.BD.AN) u
end
def Gw:World→AX→Value→Prop:=fun _ t v=>v=F8 t
def Xu (ts:List AX) (ns:List V):PR AX:=match ts with
 |t::r=> .ok t r ns
 |[]=> .bad 0 0
theorem EU (av:Nat→Prop) (base:Nat→Prop) (rb d:Nat) (vt vn:Value) (t:AX) (r:List AX) (ns:List V) (w:World) (h:B8 av base w rb vt vn (t::r) ns d) (hk:t.k≠4):
  Calls Tryz.prog 61 #[.pointer (some ⟨rb,0,none⟩)] w (Bo Gw av base w rb vn d (.ok t r ns)):=by
 obtain⟨af,ag,g,ah,G,J,rfl,K,ai,L,M,N⟩:=h.head;injection J with O W;subst O W;obtain⟨X,aj,ak⟩:=h.cells;have lb:=Y.lt h.BD;have al:=Y.frozen h.BD 0;have aa:=(h.Aj.tail hk).pos;have I:(t::r).length=r.length+1:=rfl;obtain⟨z,F⟩: ∃z,(t::r).length=z:=⟨_,rfl⟩;have ab:=Z (B8.step (by rw[←F];exact h) F hk);rw[F]at X K I;have am:(0:Int)<(z:Int):=(by omega);have an:(1:Int)≤(z:Int):=(by omega);have ao: ¬(G=1):=(by omega);have ap:1≤z:=(by omega);have aq:1<G:=(by omega);unfold Bo Gw F8 EJ;clear h F hk I aa;obtain⟨ac,ad,ae⟩:=t;simp only[]at L M N;go_enter Tryz.func61,Tryz.ntmps61;go_wp2_with fail;refine bodyPost_ret (v:=.agg #[.int .i64 ac,.string ⟨ad.toArray⟩,.int .i64 ae]) (by simp[results,Tryz.results61,go_sem]) rfl ?_;exact⟨_,rfl,rfl,⟨_,ab.out.grown (AF (AF (AB _ none) _) _)⟩,AF (AF (AM (AB w (some rb)) (p:=⟨rb,0,none⟩) (.inl rfl) _) _) _⟩
def IY:World→Bool→Value→Prop:=fun _ b v=>v=.bool b
theorem EJ.grown {av:Nat→Prop} {base:Nat→Prop} {rb d:Nat} {w w':World} {vn:Value} {ts:List AX} {ns:List V} (h:EJ av base w rb vn ts ns d) (z:w.grownBy w' none):EJ av base w' rb vn ts ns d:=by
 obtain⟨vt,h⟩:=h;exact⟨vt,h.grown z⟩
theorem EJ.Aj {av:Nat→Prop} {base:Nat→Prop} {rb d:Nat} {w:World} {vn:Value} {ts:List AX} {ns:List V} (h:EJ av base w rb vn ts ns d):Good ts:=by
 obtain⟨vt,h⟩:=h;exact h.Aj
theorem CM.grown {av:Nat→Prop} {base:Nat→Prop} {rb d:Nat} {w w':World} {ts:List AX} {ns:List V} (h:CM av base w rb ts ns d) (z:w.grownBy w' none):CM av base w' rb ts ns d:=by
 obtain⟨vt,vn,h⟩:=h;exact⟨vt,vn,h.grown z⟩
theorem CM.Aj {av:Nat→Prop} {base:Nat→Prop} {rb d:Nat} {w:World} {ts:List AX} {ns:List V} (h:CM av base w rb ts ns d):Good ts:=by
 obtain⟨vt,vn,h⟩:=h;exact h.Aj
theorem DH {a b:World} {rb:Nat} (h:a.grownBy b none):a.grownBy b (some rb):=CV h _
theorem CO {a b c:World} {rb:Nat} (h:a.grownBy b (some rb)) (k:b.grownBy c (some rb)):a.grownBy c (some rb):=AJ h k
theorem Z0R {P:Prop} (h:P:=by
 clear O W;go_wp2_with fail;go_ret;exact⟨_,rfl,rfl,af.out,ag.out⟩):P:=h
theorem Kh (av:Nat→Prop) (base:Nat→Prop) (rb d:Nat) (vn:Value) (ts:List AX) (ns:List V) (s:List UInt8) (w:World) (ab:EJ av base w rb vn ts ns d):
  Calls Tryz.prog 63 #[.pointer (some ⟨rb,0,none⟩),sv s] w (Bo IY av base w rb vn d (.ok (BR ts s) (A3 ts s) ns)):=by
 have aj:=ab.Aj;obtain⟨t,r,rfl⟩:=aj.ne;have K:=Z ab;have M:=Z (fun h (z:EJ av base h rb vn (t::r) ns d)=>(show Calls Tryz.prog 60 #[.pointer (some ⟨rb,0,none⟩),sv s] h fun e w'=>e=.returned (.bool (Dn (t::r) s))∧h.grownBy w' none by obtain⟨vt,z⟩:=z;exact Hz av base rb d vt vn _ ns s h z));have X:=Z (fun h (z:EJ av base h rb vn (t::r) ns d)=>(show Calls Tryz.prog 82 #[.pointer (some ⟨rb,0,none⟩),sv s] h fun e w'=>e=.returned (.bool (Fl (t::r) s))∧h.grownBy w' none by obtain⟨vt,z⟩:=z;exact JE av base rb d vt vn _ ns s h z));have ac:=Z (fun h (z:EJ av base h rb vn (t::r) ns d) (hk:t.k≠4)=>(show Calls Tryz.prog 61 #[.pointer (some ⟨rb,0,none⟩)] h (Bo Gw av base h rb vn d (.ok t r ns)) by obtain⟨vt,z⟩:=z;exact EU av base rb d vt vn t r ns h z hk));have L:=Z (show BR (t::r) s=(Dn (t::r) s||Fl (t::r) s)from rfl);have ad:=Z (fun(G:BR (t::r) s=true)=>(Fx G).1);have aa:=Z (fun(G:BR (t::r) s=true)=>(show A3 (t::r) s=r by unfold A3;rw[G];rfl));have ae:=Z (fun(G:BR (t::r) s=false)=>(show A3 (t::r) s=t::r by unfold A3;rw[G];rfl));unfold Bo Gw at ac;unfold Bo IY;unfold sv at M X⊢;obtain⟨a,ak⟩: ∃a,Dn (t::r) s=a:=⟨_,rfl⟩;obtain⟨b,G⟩: ∃b,Fl (t::r) s=b:=⟨_,rfl⟩;rw[ak]at M L;rw[G]at X L;obtain⟨c,al⟩: ∃c,BR (t::r) s=c:=⟨_,rfl⟩;rw[al]at L ad aa ae⊢;obtain⟨T,am⟩: ∃T,A3 (t::r) s=T:=⟨_,rfl⟩;rw[am]at aa ae⊢;clear ab aj ak G al am;cases a with
 |true=>
  obtain rfl:c=true:=L.out;obtain rfl:T=r:=aa.out rfl;go_enter Tryz.func63,Tryz.ntmps63;go_wp2_with fail;refine(M.out _ K.out).mono ?_;rintro e an ⟨rfl,F⟩;have I:=Z (K.out.grown F);have N:=Z F;clear F;go_wp2_with fail;refine(ac.out _ I.out (ad.out trivial)).mono ?_;rintro e ao ⟨v,rfl,rfl,O,W⟩;have af:=Z O;have ag:=Z (CO (DH N.out) W);exact Z0R
 |false=>
  cases b with
  |true=>
   obtain rfl:c=true:=L.out;obtain rfl:T=r:=aa.out rfl;go_enter Tryz.func63,Tryz.ntmps63;go_wp2_with fail;refine(M.out _ K.out).mono ?_;rintro e an ⟨rfl,F⟩;have I:=Z (K.out.grown F);have N:=Z F;clear F;go_wp2_with fail;refine(X.out _ I.out).mono ?_;rintro e ap ⟨rfl,J⟩;have ah:=Z (I.out.grown J);have ai:=Z (AI N.out J);clear J;go_wp2_with fail;refine(ac.out _ ah.out (ad.out trivial)).mono ?_;rintro e ao ⟨v,rfl,rfl,O,W⟩;have af:=Z O;have ag:=Z (CO (DH ai.out) W);exact Z0R
  |false=>
   obtain rfl:c=false:=L.out;obtain rfl:T=t::r:=ae.out rfl;go_enter Tryz.func63,Tryz.ntmps63;go_wp2_with fail;refine(M.out _ K.out).mono ?_;rintro e an ⟨rfl,F⟩;have I:=Z (K.out.grown F);have N:=Z F;clear F;go_wp2_with fail;refine(X.out _ I.out).mono ?_;rintro e ap ⟨rfl,J⟩;have ah:=Z (I.out.grown J);have ai:=Z (AI N.out J);clear J;go_wp2_with fail;go_ret;exact⟨_,rfl,rfl,ah.out,DH ai.out⟩
theorem M6 (av:Nat→Prop) (base:Nat→Prop) (rb d:Nat) (vn:Value) (ts:List AX) (ns:List V) (s:List UInt8) (w:World) (K:EJ av base w rb vn ts ns d):
  Calls Tryz.prog 123 #[.pointer (some ⟨rb,0,none⟩),sv s] w (Bo Ch av base w rb vn d (AW s ts ns)):=by
 have O:=K.Aj;obtain⟨t,r,rfl⟩:=O.ne;have W:=Z K;have z:=Z (fun h (F:EJ av base h rb vn (t::r) ns d)=>Kh av base rb d vn _ ns s h F);have ac:=Z (fun h (F:EJ av base h rb vn (t::r) ns d)=>(show Calls Tryz.prog 31 #[.pointer (some ⟨rb,0,none⟩)] h fun e w'=>e=.panicked [Fk t.a (if t.k=4 then 23 else 17)]∧h.grownBy w' none by obtain⟨vt,F⟩:=F;exact Fa av base rb d vt vn t r ns h F));unfold Bo IY at z;unfold AW;obtain⟨c,J⟩: ∃c,BR (t::r) s=c:=⟨_,rfl⟩;have X:=Z (fun(L:c=true)=>(show A3 (t::r) s=r by unfold A3;rw[J,L];rfl));have aa:=Z (fun(L:c=false)=>(show A3 (t::r) s=t::r by unfold A3;rw[J,L];rfl));rw[J]at z⊢;obtain⟨T,ab⟩: ∃T,A3 (t::r) s=T:=⟨_,rfl⟩;rw[ab]at X aa z;unfold sv at z⊢;clear K O J ab;cases c with
 |true=>
  obtain rfl:T=r:=X.out rfl;rw[Ah rfl];unfold Bo Ch;simp only[List.tail_cons];go_enter Tryz.func123,Tryz.ntmps123;go_wp2_with fail;refine(z.out _ W.out).mono ?_;rintro e ad ⟨v,rfl,rfl,G,I⟩;have M:=Z G;have N:=Z I;clear G I;go_wp2_with fail;refine bodyPost_end (results_none rfl _ _ _) rfl ⟨_,rfl,rfl,M.out,N.out⟩
 |false=>
  obtain rfl:T=t::r:=aa.out rfl;rw[U (by decide)];unfold Ay Bo;simp only[];go_enter Tryz.func123,Tryz.ntmps123;go_wp2_with fail;refine(z.out _ W.out).mono ?_;rintro e ad ⟨v,rfl,rfl,G,I⟩;have M:=Z G;have N:=Z I;clear G I;go_wp2_with fail;refine(ac.out _ M.out).mono ?_;rintro e af ⟨rfl,ae⟩;exact AR rfl ⟨rfl,CO N.out (DH ae)⟩
theorem Ke (av:Nat→Prop) (base:Nat→Prop) (rb d:Nat) (vn:Value) (ts:List AX) (ns:List V) (w:World) (X:EJ av base w rb vn ts ns d):
  Calls Tryz.prog 29 #[.pointer (some ⟨rb,0,none⟩)] w (Bo Ch av base w rb vn d (.ok () (AG ts) ns)):=by
 have aj:=Z X;have J:=Z (fun h ts (z:EJ av base h rb vn ts ns d)=>(show Calls Tryz.prog 60 #[.pointer (some ⟨rb,0,none⟩),sv Fu] h fun e w'=>e=.returned (.bool (Dn ts Fu))∧h.grownBy w' none by obtain⟨vt,z⟩:=z;exact Hz av base rb d vt vn _ ns Fu h z));have aa:=Z (fun h t r (z:EJ av base h rb vn (t::r) ns d) (hk:t.k≠4)=>(show Calls Tryz.prog 61 #[.pointer (some ⟨rb,0,none⟩)] h (Bo Gw av base h rb vn d (.ok t r ns)) by obtain⟨vt,z⟩:=z;exact EU av base rb d vt vn t r ns h z hk));unfold Bo Gw at aa;unfold Bo Ch;unfold Fu sv at J;obtain⟨B,K⟩: ∃B,AG ts=B:=⟨_,rfl⟩;rw[K];have ak:=Z K;clear X K;go_enter Tryz.func29,Tryz.ntmps29;go_wp2_with fail;go_loopg [] ts.length (fun g wr=> ∃T,AG T=B∧T.length≤g∧EJ av base wr rb vn T ns d∧w.grownBy wr (some rb));case atStart=>exact⟨ts,ak.out,BL _,aj.out,AB w _⟩
 case round=>
  obtain⟨T,ab,ac,L,ad⟩:=hrel;obtain⟨t,r,rfl⟩:=L.Aj.ne;have ae:=Z ab;have I:=Z L;have af:=Z ad;have ag:=Z ac;clear ab L ad ac;obtain⟨c,F⟩: ∃c,Dn (t::r) [10]=c:=⟨_,rfl⟩;have ap:=Z F;cases c with
  |true=>
   have al:=Z (Lc F).1;have M:=Z (show AG r=B by
    rw[←ae.out];show _=(if _ then _ else _);rw[Ah (show(t.k==2&&t.t==Fu)=true from F)])
   have N:=Z (fun h z=>by have:=J.out h (t::r) z;rw[F]at this;exact this);clear F;go_wp2_with fail;refine(N.out _ I.out).mono ?_;rintro e am ⟨rfl,G⟩;have O:=Z (I.out.grown G);have W:=Z (CO af.out (DH G));clear G;go_wp2_with fail;refine(aa.out _ t r O.out (by have:=al.out;omega)).mono ?_;rintro e aq ⟨v,rfl,rfl,ah,ai⟩;have an:=Z ah;have ao:=Z (CO W.out ai);clear ah ai;go_wp2_with fail;go_roundg (gk-1);case rel=>exact⟨r,M.out,by have:=ag.out;simp only[BP]at this;omega,an.out,ao.out⟩
   case measure=>have:=ag.out;simp only[BP]at this;omega
  |false=>
   have M:=Z (show t::r=B by
    rw[←ae.out];show _=(if _ then _ else _);rw[U (show¬(t.k==2&&t.t==Fu)=true from by rw[show(t.k==2&&t.t==Fu)=false from F];decide)])
   have N:=Z (fun h z=>by have:=J.out h (t::r) z;rw[F]at this;exact this);clear F;go_wp2_with fail;refine(N.out _ I.out).mono ?_;rintro e am ⟨rfl,G⟩;have O:=Z (I.out.grown G);have W:=Z (CO af.out (DH G));clear G;go_wp2_with fail;refine bodyPost_end (results_none rfl _ _ _) rfl ⟨_,rfl,rfl,by rw[←M.out];exact O.out,W.out⟩
end
section
open Go.RowKit Lx
theorem KG:(Tryz.prog.info? 32).map (fun i=>(i.zero,i.size,i.bytes))=some (some (.agg #[.int .i64 0,.string ⟨#[]⟩,.bool false,.slice none 0 0,.slice none 0 0,.slice none 0 0,.slice none 0 0,.slice none 0 0]),8,152):=by kernel_rfl
theorem TI {h xs:List Value} {n i:Nat} (z:h.length=n*8) (F:i<n):((h++xs).drop (i*8)).take 8=(h.drop (i*8)).take 8:=by
 rw[List.drop_append_of_le_length (by omega),List.take_append_of_le_length (by rw[Dq];omega)]
theorem Cm.add {av:Nat→Prop} {base:Nat→Prop} {w w':World} {F a b r p k:Value} {ns:List V} {n:V} {h:List Value} (G:h.length=ns.length*8) (J: ∀i (ac:i<ns.length),∃a b r p k,(h.drop (i*8)).take 8=AT ns[i] a b r p k∧Bi av w a b r p k ns[i])
  (K:Own w' 32 8 F (ns.length+1) (h++AT n a b r p k) 0) (I:Fr base w w') (L:Bi av w a b r p k n):Cm av w' F (ns++[n]):=by
 refine⟨h++AT n a b r p k,by rw[BE,Cd];exact K,fun i M=>?_⟩;rw[BE,Cd]at M;by_cases z:i<ns.length
 ·obtain⟨N,O,W,X,aa,e,ab⟩:=J i z;refine⟨N,O,W,X,aa,?_,?_⟩
  ·rw[TI G z,e,List.getElem_append_left z]
  ·rw[List.getElem_append_left z];exact ab.fr I
 ·obtain rfl:i=ns.length:=by omega
  refine⟨a,b,r,p,k,?_,?_⟩
  ·rw[←G,List.drop_left' rfl,List.getElem_append_right (BL _)];simp[AT]
  ·rw[List.getElem_append_right (BL _)];simp
   exact L.fr I
theorem Bi.C1 {av:Nat→Prop} {w:World} {a b r p k:Value} {n:V} (h:Bi av w a b r p k n): ∃z F G I J K L M N O W X aa ab ac,a=.slice z F G∧b=.slice I J K∧r=.slice L M N∧p=.slice O W X∧k=.slice aa ab ac:=by
 obtain⟨aj,ak,ad,_⟩:=h.AY.form;obtain⟨al,am,ae,_⟩:=h.words.form;obtain⟨an,ao,af,_⟩:=h.DB.form;obtain⟨ap,ag,_,_⟩:=h.AS;obtain⟨aq,ar,ah,_⟩:=ag.form;obtain⟨au,aw,ai,_⟩:=h.kids.form;exact⟨_,_,_,_,_,_,_,_,_,_,_,_,_,_,_,ad,ae,af,ah,ai⟩
theorem Uu (h:World) (B:Nat) (n:V) (z F G I J:Option Addr) (K L M N O W X aa ab ac:Nat) (ae:h.heap.size=B):
  Src Tryz.prog 8 22 (.slice (some ⟨B,0,none⟩) 1 1) 1 (AT n (.slice z K L) (.slice F M N) (.slice G O W) (.slice I X aa) (.slice J ab ac)) (h.alloc (.cells #[.int .i64 n.kind,.string ⟨n.name.toArray⟩,.bool n.A5,.slice z K L,.slice F M N,.slice G O W,.slice I X aa,.slice J ab ac] 32)):=by
 subst ae;refine Own.src (P:=Tryz.prog) (tx:=22) (e':=32) (n:=1) (k:=0) (e:=32) ⟨rfl,.inr ⟨h.heap.size,0,1,_,(0,0),rfl,Y.new h 32 _,BL _,BL _,by unfold maxLen;omega,by show 0+1*8≤8;omega,fun j af=>by rw[Nat.zero_add];simp[AT,sv]⟩⟩ (by kernel_rfl) ?_;intro u ad;simp only[AT,List.mem_cons,List.mem_nil_iff,or_false]at ad;rcases ad with rfl|rfl|rfl|rfl|rfl|rfl|rfl|rfl<;>rfl
theorem GZ (av:Nat→Prop) (base:Nat→Prop) (rb d:Nat) (ts:List AX) (ns:List V) (n:V) (a b r p k:Value) (w:World) (am:CM av base w rb ts ns d) (aU:Bi av w a b r p k n) (bo:ns.length+1+10*ts.length≤100000):
  Calls Tryz.prog 64 #[.pointer (some ⟨rb,0,none⟩),.agg (AT n a b r p k).toArray] w (Al CZ av base w rb d (An n ts ns)):=by
 obtain⟨M,N,O,W,X,aa,ab,ac,ad,ae,af,ag,ah,ai,aj,rfl,rfl,rfl,rfl,rfl⟩:=aU.C1;obtain⟨a0,bN,am⟩:=am;obtain⟨bp,aL,a1⟩:=am.Mo;obtain⟨aV,aW,rfl,bq,_⟩:=aL.form;have a2:=aL.len;obtain⟨br,au,bs⟩:=am.cells;have lb:=Y.lt am.BD;have bt:=Y.frozen am.BD 1;have L:=Z am;have a3:=Z aU;have a4:=Z aL;have bu:=Z a1;have bv:=Z (fun F B aX=>Uu F B n M W ab ae ah N O X aa ac ad af ag ai aj aX);have G:=Z (Y.new w 32 (AT n (.slice M N O) (.slice W X aa) (.slice ab ac ad) (.slice ae af ag) (.slice ah ai aj)).toArray);have bw:=Z a2;unfold An Al CZ CM;clear am aU aL a1 a2;obtain⟨I,aM⟩: ∃I,ns.length=I:=⟨_,rfl⟩;rw[aM]at au bq;have ak:=Z aM;rw[aM];have bO:I≤100000:=(by omega);clear aM;unfold AT at G;obtain⟨an,ao,ap,bx,bz,bA,bB,bC⟩:=n;simp only[]at G;simp only[AT];unfold sv at G⊢;have bD:(w.alloc (.cells #[.int .i64 an,.string ⟨ao.toArray⟩,.bool ap,.slice M N O,.slice W X aa,.slice ab ac ad,.slice ae af ag,.slice ah ai aj] 32)).heap.size=w.heap.size+1:=World.size_alloc _ _;go_enter Tryz.func64,Tryz.ntmps64;go_wp2_with fail;have aw:=AF (AB w none) (.cells #[.int .i64 an,.string ⟨ao.toArray⟩,.bool ap,.slice M N O,.slice W X aa,.slice ab ac ad,.slice ae af ag,.slice ah ai aj] 32);have aA:=L.out.grown aw;have aN:=Bh aw a4.out;have aY:=a3.out.fr (base:=base) (Fr.AL aw);obtain⟨F,a5⟩: ∃F,w.alloc (.cells #[.int .i64 an,.string ⟨ao.toArray⟩,.bool ap,.slice M N O,.slice W X aa,.slice ab ac ad,.slice ae af ag,.slice ah ai aj] 32)=F:=⟨_,rfl⟩;rw[a5]at aw aA aN aY G bD⊢;clear a5 br au bs lb bt;obtain⟨_,au,_⟩:=aA.cells;rw[ak.out]at au aN;have lb:=Y.lt aA.BD;have aq:=Y.lt G.out;have a6:F.cell? ⟨w.heap.size,0,none⟩=some (.int .i64 an):=Y.cell G.out 0;have a7:F.cell? ⟨w.heap.size,1,none⟩=some (.string ⟨ao.toArray⟩):=Y.cell G.out 1;have a8:F.cell? ⟨w.heap.size,2,none⟩=some (.bool ap):=Y.cell G.out 2;have a9:F.cell? ⟨w.heap.size,3,none⟩=some (.slice M N O):=Y.cell G.out 3;have a':F.cell? ⟨w.heap.size,4,none⟩=some (.slice W X aa):=Y.cell G.out 4;have ba:F.cell? ⟨w.heap.size,5,none⟩=some (.slice ab ac ad):=Y.cell G.out 5;have bb:F.cell? ⟨w.heap.size,6,none⟩=some (.slice ae af ag):=Y.cell G.out 6;have bc:F.cell? ⟨w.heap.size,7,none⟩=some (.slice ah ai aj):=Y.cell G.out 7;have aO:=Z aw;have aP:=Z aA;have aQ:=Z aN;have bP:=Z aY;clear aw aA aN aY;refine Cs [0,1,2,3,4,5] [6,7,8,9,10] (by kernel_rfl) (by kernel_rfl) (fun al=>al.cell? ⟨rb,1,none⟩=some (.slice aV I aW)∧al.cell? ⟨w.heap.size,0,none⟩=some (.int .i64 an)∧al.cell? ⟨w.heap.size,1,none⟩=some (.string ⟨ao.toArray⟩)∧al.cell? ⟨w.heap.size,2,none⟩=some (.bool ap)∧al.cell? ⟨w.heap.size,3,none⟩=some (.slice M N O)∧al.cell? ⟨w.heap.size,4,none⟩=some (.slice W X aa)∧al.cell? ⟨w.heap.size,5,none⟩=some (.slice ab ac ad)∧al.cell? ⟨w.heap.size,6,none⟩=some (.slice ae af ag)∧al.cell? ⟨w.heap.size,7,none⟩=some (.slice ah ai aj)) ⟨au,a6,a7,a8,a9,a',ba,bb,bc⟩ ?_;simp only[pick,List.getElem?_cons_zero,List.getElem?_cons_succ];refine AQ ?_ (by rfl) ?_ ?_;rotate_left
 ·(intro ax K;obtain⟨aB,aC,aD,aE,aF,aG,aH,aI,aJ⟩:=K;go_simp;try with_reducible rfl)
 simp only[Act.put,BH,BF,BG];refine AQ ?_ (by rfl) ?_ ?_;rotate_left
 ·(intro ax K;obtain⟨aB,aC,aD,aE,aF,aG,aH,aI,aJ⟩:=K;go_simp;try with_reducible rfl)
 simp only[Act.put,BH,BF,BG];refine AQ ?_ (by rfl) ?_ ?_;rotate_left
 ·(intro ax K;obtain⟨aB,aC,aD,aE,aF,aG,aH,aI,aJ⟩:=K;go_simp;try with_reducible rfl)
 simp only[Act.put,BH,BF,BG];refine AQ ?_ (by rfl) ?_ ?_;rotate_left
 ·(intro ax K;obtain⟨aB,aC,aD,aE,aF,aG,aH,aI,aJ⟩:=K;go_simp;try with_reducible rfl)
 simp only[Act.put,BH,BF,BG];refine AQ ?_ (by rfl) ?_ ?_;rotate_left
 ·(intro ax K;obtain⟨aB,aC,aD,aE,aF,aG,aH,aI,aJ⟩:=K;go_simp;try with_reducible rfl)
 simp only[Act.put,BH,BF,BG];refine AQ ?_ (by rfl) ?_ ?_;rotate_left
 ·(intro ax K;obtain⟨aB,aC,aD,aE,aF,aG,aH,aI,aJ⟩:=K;go_simp;try with_reducible rfl)
 simp only[Act.put,BH,BF,BG];refine CP ?_;refine Ae fun bE bd=>?_
 refine AZ (.slice (some ⟨F.heap.size,0,none⟩) 1 1) (F.drew.alloc (.cells #[.int .i64 an,.string ⟨ao.toArray⟩,.bool ap,.slice M N O,.slice W X aa,.slice ab ac ad,.slice ae af ag,.slice ah ai aj] 32)) (by rfl) (by go_simp) ?_;have z:=AF (Ag (AB F none)) (.cells #[.int .i64 an,.string ⟨ao.toArray⟩,.bool ap,.slice M N O,.slice W X aa,.slice ab ac ad,.slice ae af ag,.slice ah ai aj] 32);refine bd.out _ _ ⟨AH z lb au,AH z aq a6,AH z aq a7,AH z aq a8,AH z aq a9,AH z aq a',AH z aq ba,AH z aq bb,AH z aq bc⟩ ?_;simp only[Act.put,BH,BF,BG];refine Ae fun bF be=>?_
 refine Ap (by rfl) (.tmp 9) (.tmp 11) 22 22 (by rfl) 32 (.agg #[.int .i64 0,.string ⟨#[]⟩,.bool false,.slice none 0 0,.slice none 0 0,.slice none 0 0,.slice none 0 0,.slice none 0 0]) 8 152 Tryz.underlying22 KG rfl (.slice aV I aW) I bp 0 _ 1 _ (by rfl) (by rfl) (Bh z aQ.out) (by omega) (bv.out F.drew _ rfl) (by unfold maxLen;omega) (by omega) ?_;intro bQ ar aR aK bf _;obtain⟨ay,az,rfl,_,_⟩:=aR.form;have J:=Y.Bl (Y.grown aP.out.BD z (by simp)) aK (fun e=>by
  have:=((Bh z aQ.out).AN e).uniq (Y.grown aP.out.BD z (by simp)).AN;exact Ai this (by decide))
 have h:=Y.Bl (Y.grown G.out z (by simp)) aK (fun e=>by have:=a4.out.lt (by rw[ak.out];exact e);omega);have aS:Fr base F ar:=(Fr.AL z).trans (Az.mono aK (fun k hk e=>⟨L.out.new k (by rw[ak.out];exact e),.inr ((Bh z aQ.out).AN e)⟩));refine be.out _ _ ⟨(Y.cell J 1).trans (by rw[ak.out];rfl),Y.cell h 0,Y.cell h 1,Y.cell h 2,Y.cell h 3,Y.cell h 4,Y.cell h 5,Y.cell h 6,Y.cell h 7⟩ ?_;simp only[Act.put,BH,BF,BG];refine Ae fun K3 bg=>?_
 refine AZ (.pointer (some ⟨rb,0,none⟩)) ar (by rfl) (by go_simp) ?_;refine bg.out _ _ ⟨(Y.cell J 1).trans (by rw[ak.out];rfl),Y.cell h 0,Y.cell h 1,Y.cell h 2,Y.cell h 3,Y.cell h 4,Y.cell h 5,Y.cell h 6,Y.cell h 7⟩ ?_;simp only[Act.put,BH,BF,BG];refine Ae fun bG bh=>?_
 refine AZ (.pointer (some ⟨rb,1,none⟩)) ar (by rfl) (by go_simp) ?_;refine bh.out _ _ ⟨(Y.cell J 1).trans (by rw[ak.out];rfl),Y.cell h 0,Y.cell h 1,Y.cell h 2,Y.cell h 3,Y.cell h 4,Y.cell h 5,Y.cell h 6,Y.cell h 7⟩ ?_;simp only[Act.put,BH,BF,BG];refine CN ?_;have bR:=Y.frozen J 1;have bS:ar.cell? ⟨rb,1,none⟩=some (.slice aV I aW):=(Y.cell J 1).trans (by rw[ak.out];rfl);have bT:=Y.lt J;have bi:=Cm.add bw.out bu.out (by rw[ak.out];exact aR) ((Fr.AL aO.out).trans aS) a3.out;have bH:(Value.slice ay (I+1) az).ownBlock≠some rb:=fun e=>by
  have:=(aR.AN e).uniq J.AN;exact Ai this (by decide)
 have aZ:=(Bh z aP.out.tok).Bl aK (fun g bI e=>by
  have:=((Bh z aP.out.tok).AN bI).uniq ((Bh z aQ.out).AN e);exact Ai this (by decide))
 have bj: ∀b,(Value.slice ay (I+1) az).ownBlock=some b→base b:=fun b aX=>by
  rcases bf b aX with e|e
  ·exact L.out.new b (by rw[ak.out];exact e)
  ·have bJ:=z.size;have bK:=aO.out.size;exact L.out.lo.up b (by omega)
 have bk:a0.ownBlock≠some rb:=fun e=>by
  have:=(aZ.AN e).uniq J.AN;exact Ai this (by decide)
 have bl:B8 av base (ar.setCell ⟨rb,1,none⟩ (.slice ay (I+1) az)) rb a0 (.slice ay (I+1) az) ts (ns++[⟨an,ao,ap,bx,bz,bA,bB,bC⟩]) d:=
  ⟨Y.AV J 1 _,aZ.Be (p:=⟨rb,1,none⟩) bk _,bi.Be (p:=⟨rb,1,none⟩) L.out.lo.at_ J.AN,bj,L.out.lo.size (by have bJ:=aO.out.size;have bK:=aS.size;rw[World.size_setCell];omega),L.out.Aj,by rw[BE,Cd];exact bo,L.out.dep,L.out.Kx⟩
 have bm:Fr base w (ar.setCell ⟨rb,1,none⟩ (.slice ay (I+1) az)):=((Fr.AL aO.out).trans aS).set (p:=⟨rb,1,none⟩) L.out.lo.at_ (.inl J.AN) _;have aT:=Z bl;have bn:=Z bm;clear bl bm bj bH aZ bi bk aS h aR aK bf z bd be bg bh bE bF K3 bG;clear J;go_wp2
 refine NoPanic.normal ?_;obtain⟨_,bL,_⟩:=aT.out.cells;have bM:=Y.lt aT.out.BD;generalize ar.setCell ⟨rb,1,none⟩ (.slice ay (I+1) az)=ax at aT bn bL bM⊢;go_wp2_with fail;go_ret;exact⟨.int .i64 (I:Int),E3 (by omega),rfl,⟨_,_,aT.out⟩,bn.out⟩
end
section
open Go.RowKit Lx
theorem CM.Dy {av:Nat→Prop} {base:Nat→Prop} {rb d:Nat} {w:World} {ts:List AX} {ns:List V} (h:CM av base w rb ts ns d):ns.length+10*ts.length≤100000:=by
 obtain⟨z,F,h⟩:=h;exact h.Dy
theorem O6 {w w':World} {t:AX} (z:(w.alloc (.cells #[.int .i64 t.k,.string ⟨t.t.toArray⟩,.int .i64 t.a] 69)).grownBy w' none):w'.cell? ⟨w.heap.size,0,none⟩=some (.int .i64 t.k)∧w'.cell? ⟨w.heap.size,1,none⟩=some (.string ⟨t.t.toArray⟩)∧w'.cell? ⟨w.heap.size,2,none⟩=some (.int .i64 t.a)∧w.heap.size<w'.heap.size:=by
 have h:=Y.grown (Y.new w 69 #[.int .i64 t.k,.string ⟨t.t.toArray⟩,.int .i64 t.a]) z (by simp);exact⟨Y.cell h 0,Y.cell h 1,Y.cell h 2,Y.lt h⟩
theorem Z0S {P:Prop} (h:P:=by
 go_wp2_with fail;go_ret;exact⟨Am (a:=true) (by rw[h.out];rfl),I.out⟩):P:=h
theorem Aa (av:Nat→Prop) (base:Nat→Prop) (rb d:Nat) (ts:List AX) (ns:List V) (w:World) (F:CM av base w rb ts ns d):
  Calls Tryz.prog 65 #[.pointer (some ⟨rb,0,none⟩)] w fun e w'=>e=.returned (.bool (BX ts))∧w.grownBy w' none:=by
 obtain⟨aK,aL,F⟩:=F;obtain⟨t,r,g,aM,aN,rfl,rfl,ax,aO,ay,az,aA⟩:=F.head;obtain⟨aB,aP,aQ⟩:=F.cells;have lb:=Y.lt F.BD;have aC:(0:Int)<(((t::r).length:Nat):Int):=(by simp only[BP];omega);have aD:=Z F;have aE:=Z (F.Kx t (List.mem_cons_self ..));obtain⟨ah,ai⟩: ∃ah,(t::r).length=ah:=⟨_,rfl⟩;rw[ai]at aB aC ax;clear F ai;have h:=Z (show BX (t::r)=(FG t||FA t||t.k==3||(t.k==1&&(t.t==DQ||t.t==FZ||!DW t.t)))from rfl);have K:=Z (fun J=>GC t J);have L:=Z (fun J=>Ie t J);have M:=Z (fun J=>Gd t.t J);obtain⟨B,aj⟩: ∃B,BX (t::r)=B:=⟨_,rfl⟩;rw[aj]at h⊢;obtain⟨ac,ak⟩: ∃ac,FG t=ac:=⟨_,rfl⟩;obtain⟨ad,al⟩: ∃ad,FA t=ad:=⟨_,rfl⟩;obtain⟨N,am⟩: ∃N,DW t.t=N:=⟨_,rfl⟩;rw[ak]at h K;rw[al]at h L;rw[am]at h M;clear aj ak al am aE aD;obtain⟨z,G,an⟩:=t;simp only[]at ay az aA h M;unfold F8 sv at K L;unfold sv at M;simp only[]at K L;go_enter Tryz.func65,Tryz.ntmps65;go_wp2_with fail;refine(K.out _).mono ?_;rintro e aR ⟨rfl,O⟩;have ae:=O6 (t:=⟨z,G,an⟩) O;obtain⟨W,X,aa,ao⟩:=ae;simp only[]at W X aa;have ap:=Z (AI (AF (AB w none) _) O);have aq:=Z O;clear O;cases ac with
 |true=>
  go_wp2_with fail;go_ret;exact⟨Am (a:=true) (by rw[h.out];rfl),ap.out⟩
 |false=>
  go_wp2_with fail;refine(L.out _).mono ?_;rintro e aS ⟨rfl,ab⟩;have ae:=O6 (t:=⟨z,G,an⟩) (AI aq.out ab);clear W X aa ao;obtain⟨W,X,aa,ao⟩:=ae;simp only[]at W X aa;have I:=Z (AI ap.out ab);have aT:=Z (AI aq.out ab);clear ab;cases ad with
  |true=>
   exact Z0S
  |false=>
   by_cases ar:z=3
   ·subst ar;exact Z0S
   ·have aU:((z:Int)==3)=false:=(by rw[beq_eq_false_iff_ne];omega);have aF:=Z (show(z==3)=false by rw[beq_eq_false_iff_ne];exact ar);by_cases au:z=1
    ·subst au;by_cases af:G=[33]
     ·subst af;exact Z0S
     ·have aw:(G==[33])=false:=Ba af;by_cases ag:G=[105,110]
      ·subst ag;exact Z0S
      ·have aG:(G==[105,110])=false:=Ba ag;have aH:=Z (show B=!N by rw[h.out];unfold DQ FZ;rw[aw,aG];simp);clear af ag;go_wp2_with fail;refine(M.out _).mono ?_;rintro e aV ⟨rfl,aI⟩;go_wp2_with fail;go_ret;exact⟨Am (a:=!N) (by rw[aH.out]),AI I.out aI⟩
    ·have aw:((z:Int) !=1)=true:=(by rw[bne_iff_ne];omega);have aW:((z:Int)==1)=false:=(by rw[beq_eq_false_iff_ne];omega);have aJ:=Z (show(z==1)=false by rw[beq_eq_false_iff_ne];exact au);go_wp2_with fail;go_ret;exact⟨Am (a:=false) (by rw[h.out,aF.out,aJ.out];rfl),I.out⟩
theorem JF (x y h:Value) (w:World):(Instr.field 69 (.agg #[x,y,h]) 1).run Tryz.prog w=.ok y w:=by kernel_rfl
theorem Q7 (av:Nat→Prop) (base:Nat→Prop) (rb d:Nat) (z:Value) (ts:List AX) (ns:List V) (w:World) (h:EJ av base w rb z ts ns d):
  Calls Tryz.prog 132 #[.pointer (some ⟨rb,0,none⟩)] w (Bo Pr av base w rb z d (EI ts ns)):=by
 obtain⟨ak,h⟩:=h;obtain⟨t,r,g,J,K,rfl,rfl,X,al,aa,ab,ac⟩:=h.head;obtain⟨ad,am,an⟩:=h.cells;have lb:=Y.lt h.BD;have ae:(0:Int)<(((t::r).length:Nat):Int):=(by simp only[BP];omega);have L:=Z h;have ao:=Z (h.Kx t (List.mem_cons_self ..));obtain⟨M,N⟩: ∃M,(t::r).length=M:=⟨_,rfl⟩;rw[N]at ad ae X;clear h N;have G:=Z (fun F (I:B8 av base F rb (.slice (some ⟨g,J,none⟩) (t::r).length K) z (t::r) ns d) (hk:t.k≠4)=>EU av base rb d _ z t r ns F I hk);have af:=Z (fun F (I:B8 av base F rb (.slice (some ⟨g,J,none⟩) (t::r).length K) z (t::r) ns d)=>Fa av base rb d _ z t r ns F I);unfold EI;simp only[];unfold Bo Gw F8 at G;by_cases hk:t.k=1
 ·rw[Ah hk];unfold Bo Pr;simp only[];obtain⟨ap,aq,ar⟩:=t;simp only[]at hk aa ab ac G⊢;subst hk;unfold sv at G⊢;have au:=JF;go_enter Tryz.func132,Tryz.ntmps132;go_wp2_with fail;refine(G.out _ L.out (by simp)).mono ?_;rintro e ag ⟨v,rfl,rfl,O,W⟩;have ah:=Z O;have ai:=Z W;clear O W;go_wp2_with fail;go_ret;exact⟨_,rfl,rfl,ah.out,ai.out⟩
 ·rw[U hk];unfold Ay Bo;simp only[];have aw:((t.k:Int) !=1)=true:=(by rw[bne_iff_ne];omega);go_enter Tryz.func132,Tryz.ntmps132;go_wp2_with fail;refine(af.out _ L.out).mono ?_;rintro e ag ⟨rfl,aj⟩;exact AR rfl ⟨rfl,DH aj⟩
end
end Go.Proofs.YtdhfhphbkfgamaaGreat
