/- PrintTells: a part of its proof. -/
import Derived.Test.YtdhfhphbkfgamaaGreatXa
set_option maxRecDepth 100000
set_option maxHeartbeats 64000000
namespace Go.Proofs.YtdhfhphbkfgamaaGreat.Lx
open Go.RowKit
theorem Tk (r:Rs) (i k h:Nat):(r.add k).out i h=r.out (i+k) h:=by
 cases r with
 |ok n=>simp[Rs.add,Rs.out];omega
 |more=>rfl
 |deep a=>simp[Rs.add,Rs.out,EZ];omega
theorem Qz {l:List UInt8} {i:Nat} {c:UInt8} (h:i<l.length) (z:l[i]=c) (d:UInt8):((l.drop i).take 1=[d])↔c=d:=by
 rw[CC h,z];show [c]=[d]↔_;simp
theorem N0 {l:List UInt8} {i:Nat} {c a b:UInt8} (z:i<l.length) (F:l[i]=c) (h:(l.drop i).take 2=[a,b]):c=a:=by
 rw[CC z,F]at h;have:c::(l.drop (i+1)).take 1=[a,b]:=h;injection this
theorem IE {t:List UInt8} {a b c:UInt8} (h:t.take 3=[a,b,c]):t.take 2=[a,b]:=by
 match t,h with
 |[],h=>cases h
 |[x],h=>cases h
 |[x,y],h=>cases h
 |x::y::F::r,h=>
  have:[x,y,F]=[a,b,c]:=h;injection this with G z;injection z with z I;subst G z;rfl
theorem RH {lv rb d i k:Nat} {q:Bool} {l:List UInt8} {w w':World} {r:Rs} {e:Ending} (h:Ac lv q (l.drop i)=r.add k) (F:e=r.out (i+k) l.length) (G:w.grownBy w' (some rb)) (I: ∀n,r=.ok n→B8 w' rb l d):
  e=(Ac lv q (l.drop i)).out i l.length∧w.grownBy w' (some rb)∧ ∀n,Ac lv q (l.drop i)=.ok n→B8 w' rb l d:=by
 refine⟨by rw[h,Tk,F],G,fun n z=>?_⟩;rw[h]at z;obtain⟨m,J,_⟩:=Rs.Cu z;exact I m J
theorem Ew (r:Rs) (i z:Nat):(∃n,r=.ok n∧r.out i z=.returned (.int .i64 ((i:Int)+n)))∨(∃f,r.out i z=.panicked [f]∧ ∀n,r≠.ok n):=by
 cases r with
 |ok n=>exact .inl ⟨n,rfl,rfl⟩
 |more=>exact .inr ⟨_,rfl,fun n h=>by cases h⟩
 |deep a=>exact .inr ⟨_,rfl,fun n h=>by cases h⟩
theorem Bt (q:Bool) (t:List UInt8):Df q t=true↔t.take 1=[92]∨t.take 1=[96]∨t.take 2=[36,40]∨t.take 2=[36,123]∨(q=false∧(t.take 1=[39]∨t.take 1=[34])):=by
 unfold Df;simp only[Bool.or_eq_true,Bool.and_eq_true,decide_eq_true_eq,Bool.not_eq_true',or_assoc]
theorem Z2e {P:Prop} (h:P:=by
 clear I W z M F aa G N O;go_enter Tryz.func96,Tryz.ntmps96;go_wp2_with fail;refine J.out.mono ?_;rintro e X ⟨rfl,rfl⟩;go_wp2_with fail;refine L.out.mono ?_;rintro e X ⟨rfl,rfl⟩;go_wp2_with fail;exact BZ rfl ⟨by simp[Rs.out,EZ],AB _ _,fun n K=>by cases K⟩):P:=h
theorem Z2f {P:Prop} (h:P:=by
 go_wp2_with fail;exact BZ rfl ⟨by simp[Rs.out,EZ],AB _ _,fun n K=>by cases K⟩):P:=h
theorem Pe:Kw 0:=by
 intro rb d i q l w G ar af ag;have J:=Z (Ga rb d i l [36,40] w G (by omega) ag (by decide));have L:=Z (Ga rb d i l [36,123] w G (by omega) ag (by decide));have ah:=Z (Ga rb d i l [36,40,40] w G (by omega) ag (by decide));unfold sv at J L ah;have am:=Z G;have au:=G.c0;have aw:=G.c1;have ax:=Y.lt G;have ai:=sz l;have an:=BC l i af;have ay:(0:Int)≤i∧(i:Int)<(l.length:Int):=(by omega);obtain⟨c,aj⟩: ∃c,l[i]=c:=⟨_,rfl⟩;rw[aj]at an;have z:=fun e=>Qz af aj e
 have M:=fun a b (h:(l.drop i).take 2=[a,b])=>N0 af aj h
 have ao:1≤(l.drop i).length:=(by rw[Dq];omega);have ap:(l.drop i).length<2↔l.length<i+2:=(by rw[Dq];omega);have F:=Bt q (l.drop i);obtain⟨t,ak⟩: ∃t,l.drop i=t:=⟨_,rfl⟩;have aa: ∀k,l.drop (i+k)=t.drop k:=fun k=>by rw[←ak,List.drop_drop]
 rw[ak]at J L ah z M ao ap F;simp only[BP,List.length_nil,Nat.zero_add,Nat.reduceAdd]at J L ah;suffices aq:Calls Tryz.prog 96 #[.pointer (some ⟨rb,0,none⟩),.int .i64 i,.bool q] w fun e w'=>e=(Ac 0 q t).out i l.length∧w.grownBy w' (some rb)∧ ∀n,Ac 0 q t=.ok n→B8 w' rb l d by
  rw[ak];exact aq
 have az:decide ((24:Int)<(d:Int))=true:=(by simp;omega);have I:Df q t=true→Ac 0 q t=.deep 0:=fun h=>by unfold Ac;rw[Ah h]
 have W: ¬Df q t=true→Ac 0 q t=.ok 0:=fun h=>by unfold Ac;rw[U h]
 by_cases ab:c=92
 ·subst ab;rw[I (F.2 (.inl ((z 92).2 rfl)))];clear I W z M F aa G;go_enter Tryz.func96,Tryz.ntmps96;exact Z2f
 have aA:((c.toNat:Int)==92)=false:=Au ab;by_cases ac:c=96
 ·subst ac;rw[I (F.2 (.inr (.inl ((z 96).2 rfl))))];clear I W z M F aa G;go_enter Tryz.func96,Tryz.ntmps96;exact Z2f
 have aB:((c.toNat:Int)==96)=false:=Au ac;by_cases N:t.take 2=[36,40]
 ·obtain rfl:=M _ _ N;have J:=Z (show Calls Tryz.prog 77 #[.pointer (some ⟨rb,0,none⟩),.int .i64 i,.string ⟨#[36,40]⟩] w fun e w'=>e=.returned (.bool true)∧w'=w from by have:=J.out;rw[At N]at this;exact this);rw[I (F.2 (.inr (.inr (.inl N))))];clear I W z M F aa G N;go_enter Tryz.func96,Tryz.ntmps96;go_wp2_with fail;refine J.out.mono ?_;rintro e X ⟨rfl,rfl⟩;exact Z2f
 have J:=Z (show Calls Tryz.prog 77 #[.pointer (some ⟨rb,0,none⟩),.int .i64 i,.string ⟨#[36,40]⟩] w fun e w'=>e=.returned (.bool false)∧w'=w from by have:=J.out;rw[Aq N]at this;exact this);by_cases O:t.take 2=[36,123]
 ·obtain rfl:=M _ _ O;have L:=Z (show Calls Tryz.prog 77 #[.pointer (some ⟨rb,0,none⟩),.int .i64 i,.string ⟨#[36,123]⟩] w fun e w'=>e=.returned (.bool true)∧w'=w from by have:=L.out;rw[At O]at this;exact this);rw[I (F.2 (.inr (.inr (.inr (.inl O)))))];exact Z2e
 have L:=Z (show Calls Tryz.prog 77 #[.pointer (some ⟨rb,0,none⟩),.int .i64 i,.string ⟨#[36,123]⟩] w fun e w'=>e=.returned (.bool false)∧w'=w from by have:=L.out;rw[Aq O]at this;exact this);by_cases ad:q=false∧c=39
 ·obtain⟨rfl,rfl⟩:=ad;rw[I (F.2 (.inr (.inr (.inr (.inr ⟨rfl,.inl ((z 39).2 rfl)⟩)))))];exact Z2e
 by_cases ae:q=false∧c=34
 ·obtain⟨rfl,rfl⟩:=ae;rw[I (F.2 (.inr (.inr (.inr (.inr ⟨rfl,.inr ((z 34).2 rfl)⟩)))))];exact Z2e
 have al: ¬Df q t=true:=by
  rw[F];rintro(h|h|h|h|⟨ai,h|h⟩)
  ·exact ab ((z 92).1 h)
  ·exact ac ((z 96).1 h)
  ·exact N h
  ·exact O h
  ·exact ad ⟨ai,(z 39).1 h⟩
  ·exact ae ⟨ai,(z 34).1 h⟩
 rw[W al];have ways:q=true∨(q=false∧((c.toNat:Int)==39)=false∧((c.toNat:Int)==34)=false):=by
  cases q with
  |true=>exact .inl rfl
  |false=>exact .inr ⟨rfl,Au (d:=39) (fun e=>ad ⟨rfl,e⟩),Au (d:=34) (fun e=>ae ⟨rfl,e⟩)⟩
 clear I W al z M F aa G N O ad ae ab ac;rcases ways with rfl|⟨rfl,aC,aD⟩
 all_goals
  go_enter Tryz.func96,Tryz.ntmps96;go_wp2_with fail;refine J.out.mono ?_;rintro e X ⟨rfl,rfl⟩;go_wp2_with fail;refine L.out.mono ?_;rintro e X ⟨rfl,rfl⟩;go_wp2_with fail;exact bodyPost_ret (results_tmp (t:=6) rfl _ _ _) rfl ⟨by simp[Rs.out],AB _ _,fun n K=>am.out⟩
theorem Z2b {P:Prop} (h:P:=by
 rw[ae,W,show(((i+2:Nat)):Int)=(i:Int)+2 by omega]at K;have I:=Z K;clear K af N aa ak ad F ai ac ae;rcases Ew r (i+2) l.length with⟨n,al,z⟩|⟨f,z,aq⟩
 ·rw[show(((i+2:Nat)):Int)=(i:Int)+2 by omega]at z;rw[z]at I;go_enter Tryz.func96,Tryz.ntmps96;go_wp2_with fail;refine J.out.mono ?_;rintro e G ⟨rfl,rfl⟩;go_wp2_with fail;refine ab.out.mono ?_;rintro e G ⟨rfl,rfl⟩;go_wp2_with fail;refine O.out.mono ?_;rintro e G ⟨rfl,rfl⟩;go_wp2_with fail;refine J.out.mono ?_;rintro e G ⟨rfl,rfl⟩;go_wp2_with fail;refine I.out.mono ?_;rintro e ah ⟨rfl,L,M⟩;go_wp2_with fail;exact bodyPost_ret (results_tmp (t:=6) rfl _ _ _) rfl (ag.out _ _ _ _ X.out z.symm L M)
 ·rw[z]at I;go_enter Tryz.func96,Tryz.ntmps96;go_wp2_with fail;refine J.out.mono ?_;rintro e G ⟨rfl,rfl⟩;go_wp2_with fail;refine ab.out.mono ?_;rintro e G ⟨rfl,rfl⟩;go_wp2_with fail;refine O.out.mono ?_;rintro e G ⟨rfl,rfl⟩;go_wp2_with fail;refine J.out.mono ?_;rintro e G ⟨rfl,rfl⟩;go_wp2_with fail;refine I.out.mono ?_;rintro e ah ⟨rfl,L,M⟩;exact BZ rfl (ag.out _ _ _ _ X.out z.symm L M)):P:=h
theorem Z2c {P:Prop} (h:P:=by
 rintro e G ⟨rfl,rfl⟩;go_wp2_with fail;refine I.out.mono ?_;rintro e ah ⟨rfl,L,M⟩;go_wp2_with fail;exact bodyPost_ret (results_tmp (t:=6) rfl _ _ _) rfl (ag.out _ _ _ _ X.out z.symm L M)):P:=h
theorem Z2d {P:Prop} (h:P:=by
 rintro e G ⟨rfl,rfl⟩;go_wp2_with fail;refine I.out.mono ?_;rintro e ah ⟨rfl,L,M⟩;exact BZ rfl (ag.out _ _ _ _ X.out z.symm L M)):P:=h
theorem QM (lv:Nat) (aF:Kw lv):Kw (lv+1):=by
 intro rb d i q l w N aR aB ao;have J:=Z (Ga rb d i l [36,40] w N (by omega) ao (by decide));have ab:=Z (Ga rb d i l [36,123] w N (by omega) ao (by decide));have O:=Z (Ga rb d i l [36,40,40] w N (by omega) ao (by decide));unfold sv at J ab O;have ap:=Z N;have aS:=N.c0;have aT:=N.c1;have aU:=Y.lt N;have ar:=sz l;have aG:=BC l i aB;have aV:(0:Int)≤i∧(i:Int)<(l.length:Int):=(by omega);obtain⟨c,aC⟩: ∃c,l[i]=c:=⟨_,rfl⟩;rw[aC]at aG;have F:=fun e=>Qz aB aC e
 have ai:=fun a b (h:(l.drop i).take 2=[a,b])=>N0 aB aC h
 have aH:1≤(l.drop i).length:=(by rw[Dq];omega);have aD:(l.drop i).length<2↔l.length<i+2:=(by rw[Dq];omega);have ac:=Bt q (l.drop i);obtain⟨t,an⟩: ∃t,l.drop i=t:=⟨_,rfl⟩;have ae: ∀k,l.drop (i+k)=t.drop k:=fun k=>by rw[←an,List.drop_drop]
 rw[an]at J ab O F ai aH aD ac;simp only[BP,List.length_nil,Nat.zero_add,Nat.reduceAdd]at J ab O;suffices aI:Calls Tryz.prog 96 #[.pointer (some ⟨rb,0,none⟩),.int .i64 i,.bool q] w fun e w'=>e=(Ac (lv+1) q t).out i l.length∧w.grownBy w' (some rb)∧ ∀n,Ac (lv+1) q t=.ok n→B8 w' rb l d by
  rw[an];exact aI
 have au: ∀(k:Nat) (w':World) (r:Rs) (e:Ending),Ac (lv+1) q t=r.add k→e=r.out (i+k) l.length→w.grownBy w' (some rb)→(∀n,r=.ok n→B8 w' rb l d)→e=(Ac (lv+1) q t).out i l.length∧w.grownBy w' (some rb)∧ ∀n,Ac (lv+1) q t=.ok n→B8 w' rb l d:=by
  intro k w' r e ar aw aJ aK;have:=RH (lv:=lv+1) (q:=q) (l:=l) (i:=i) (by rw[an];exact ar) aw aJ aK;rwa [an]at this
 have ag:=Z au;have aW:decide ((24:Int)<(d:Int))=false:=(by simp;omega);have af:=fun(k:Nat) (e:UInt8) (aL:List UInt8) (aM:Bool) (hk:i+k≤l.length)=>Nw lv aF rb d (i+k) e aL aM l w ap.out (by omega) hk ao
 unfold sv at af;by_cases ax:c=92
 ·subst ax;have aj:Df q t=true:=ac.2 (.inl ((F 92).2 rfl));have am:Ac (lv+1) q t=if t.length<2 then .more else .ok 2:=(by unfold Ac;rw[Ah aj,Ah ((F 92).2 rfl)]);by_cases aw:l.length<i+2
  ·have aN:decide ((l.length:Int)<(i:Int)+2)=true:=(by simp;omega);rw[Ah (aD.2 aw)]at am;have aO:=Z (JC rb d l w N);rw[am];clear am F ai ac ae af au N;go_enter Tryz.func96,Tryz.ntmps96;go_wp2_with fail;refine aO.out.mono ?_;rintro e ah ⟨rfl,rfl⟩;exact BZ rfl ⟨rfl,AB _ _,fun n al=>by cases al⟩
  ·have aN:decide ((l.length:Int)<(i:Int)+2)=false:=(by simp;omega);rw[U (fun h=>aw (aD.1 h))]at am;rw[am];clear am F ai ac ae af au N;go_enter Tryz.func96,Tryz.ntmps96;go_wp2_with fail;refine bodyPost_ret (results_tmp (t:=6) rfl _ _ _) rfl ⟨rfl,AB _ _,fun n al=>ap.out⟩
 have aX:((c.toNat:Int)==92)=false:=Au ax;by_cases ay:c=96
 ·subst ay;have aj:Df q t=true:=ac.2 (.inr (.inl ((F 96).2 rfl)));obtain⟨r,W⟩: ∃r,BT 96 true (t.drop 1)=r:=⟨_,rfl⟩;have X:=Z (show Ac (lv+1) q t=r.add 1 by rw[←W];unfold Ac;rw[Ah aj,U (fun h=>Ai ((F 92).1 h) (by decide)),Ah ((F 96).2 rfl)]);have K:=Ls rb d (i+1) 96 true l w N (by omega) ao;rw[ae,W,show(((i+1:Nat)):Int)=(i:Int)+1 by omega]at K;have I:=Z (K.mono (R':=fun e w'=>e=r.out (i+1) l.length∧w.grownBy w' (some rb)∧ ∀n,r=.ok n→B8 w' rb l d) (by rintro e w' ⟨rfl,rfl⟩;exact⟨rfl,AB _ _,fun _ _=>ap.out⟩));clear K af N F ai ac ae;rcases Ew r (i+1) l.length with⟨n,al,z⟩|⟨f,z,aq⟩
  ·rw[show(((i+1:Nat)):Int)=(i:Int)+1 by omega]at z;rw[z]at I;go_enter Tryz.func96,Tryz.ntmps96;go_wp2_with fail;refine I.out.mono ?_;rintro e ah ⟨rfl,L,M⟩;go_wp2_with fail;exact bodyPost_ret (results_tmp (t:=6) rfl _ _ _) rfl (by rw[an]at*;exact ag.out _ _ _ _ X.out z.symm L M)
  ·rw[z]at I;go_enter Tryz.func96,Tryz.ntmps96;go_wp2_with fail;refine I.out.mono ?_;rintro e ah ⟨rfl,L,M⟩;exact BZ rfl (ag.out _ _ _ _ X.out z.symm L M)
 have aY:((c.toNat:Int)==96)=false:=Au ay;by_cases aa:t.take 2=[36,40]
 ·obtain rfl:=ai _ _ aa;have aj:Df q t=true:=ac.2 (.inr (.inr (.inl aa)));have aP:2≤t.length:=(by have:=take_len aa;simpa using this);have aQ:t.length=l.length-i:=(by rw[←an,Dq]);by_cases ad:t.take 3=[36,40,40]
  ·have aZ:3≤t.length:=(by have:=take_len ad;simpa using this);have J:=Z (show Calls Tryz.prog 77 #[.pointer (some ⟨rb,0,none⟩),.int .i64 i,.string ⟨#[36,40]⟩] w fun e w'=>e=.returned (.bool true)∧w'=w from by have:=J.out;rw[At aa]at this;exact this);have O:=Z (show Calls Tryz.prog 77 #[.pointer (some ⟨rb,0,none⟩),.int .i64 i,.string ⟨#[36,40,40]⟩] w fun e w'=>e=.returned (.bool true)∧w'=w from by have:=O.out;rw[At ad]at this;exact this);obtain⟨r,W⟩: ∃r,Bn 0 (t.drop 3)=r:=⟨_,rfl⟩;have X:=Z (show Ac (lv+1) q t=r.add 3 by rw[←W];unfold Ac;rw[Ah aj,U (fun h=>Ai ((F 92).1 h) (by decide)),U (fun h=>Ai ((F 96).1 h) (by decide)),U (fun h=>Ai ((F 39).1 h) (by decide)),U (fun h=>Ai ((F 34).1 h) (by decide)),Ah ad]);have K:=SW rb d (i+3) l w N (by omega) ao;rw[ae,W,show(((i+3:Nat)):Int)=(i:Int)+3 by omega]at K;have I:=Z (K.mono (R':=fun e w'=>e=r.out (i+3) l.length∧w.grownBy w' (some rb)∧ ∀n,r=.ok n→B8 w' rb l d) (by rintro e w' ⟨rfl,rfl⟩;exact⟨rfl,AB _ _,fun _ _=>ap.out⟩));clear K af N aa ad F ai ac ae;rcases Ew r (i+3) l.length with⟨n,al,z⟩|⟨f,z,aq⟩
   ·rw[show(((i+3:Nat)):Int)=(i:Int)+3 by omega]at z;rw[z]at I;go_enter Tryz.func96,Tryz.ntmps96;go_wp2_with fail;refine J.out.mono ?_;rintro e G ⟨rfl,rfl⟩;go_wp2_with fail;refine O.out.mono ?_;exact Z2c
   ·rw[z]at I;go_enter Tryz.func96,Tryz.ntmps96;go_wp2_with fail;refine J.out.mono ?_;rintro e G ⟨rfl,rfl⟩;go_wp2_with fail;refine O.out.mono ?_;exact Z2d
  ·skip
   have J:=Z (show Calls Tryz.prog 77 #[.pointer (some ⟨rb,0,none⟩),.int .i64 i,.string ⟨#[36,40]⟩] w fun e w'=>e=.returned (.bool true)∧w'=w from by have:=J.out;rw[At aa]at this;exact this);have O:=Z (show Calls Tryz.prog 77 #[.pointer (some ⟨rb,0,none⟩),.int .i64 i,.string ⟨#[36,40,40]⟩] w fun e w'=>e=.returned (.bool false)∧w'=w from by have:=O.out;rw[Aq ad]at this;exact this);obtain⟨r,W⟩: ∃r,BJ (Ac lv false) 41 [] 0 (t.drop 2)=r:=⟨_,rfl⟩;have X:=Z (show Ac (lv+1) q t=r.add 2 by rw[←W];unfold Ac;rw[Ah aj,U (fun h=>Ai ((F 92).1 h) (by decide)),U (fun h=>Ai ((F 96).1 h) (by decide)),U (fun h=>Ai ((F 39).1 h) (by decide)),U (fun h=>Ai ((F 34).1 h) (by decide)),U ad,Ah aa]);have K:=af 2 41 [] false (by omega);rw[ae,W,show(((i+2:Nat)):Int)=(i:Int)+2 by omega]at K;have I:=Z K;clear K af N aa ad F ai ac ae;rcases Ew r (i+2) l.length with⟨n,al,z⟩|⟨f,z,aq⟩
   ·rw[show(((i+2:Nat)):Int)=(i:Int)+2 by omega]at z;rw[z]at I;go_enter Tryz.func96,Tryz.ntmps96;go_wp2_with fail;refine J.out.mono ?_;rintro e G ⟨rfl,rfl⟩;go_wp2_with fail;refine O.out.mono ?_;rintro e G ⟨rfl,rfl⟩;go_wp2_with fail;refine J.out.mono ?_;exact Z2c
   ·rw[z]at I;go_enter Tryz.func96,Tryz.ntmps96;go_wp2_with fail;refine J.out.mono ?_;rintro e G ⟨rfl,rfl⟩;go_wp2_with fail;refine O.out.mono ?_;rintro e G ⟨rfl,rfl⟩;go_wp2_with fail;refine J.out.mono ?_;exact Z2d
 have ad: ¬t.take 3=[36,40,40]:=fun h=>aa (IE h)
 by_cases ak:t.take 2=[36,123]
 ·obtain rfl:=ai _ _ ak;have aj:Df q t=true:=ac.2 (.inr (.inr (.inr (.inl ak))));have aP:2≤t.length:=(by have:=take_len ak;simpa using this);have aQ:t.length=l.length-i:=(by rw[←an,Dq]);cases q with
  |true=>
   have J:=Z (show Calls Tryz.prog 77 #[.pointer (some ⟨rb,0,none⟩),.int .i64 i,.string ⟨#[36,40]⟩] w fun e w'=>e=.returned (.bool false)∧w'=w from by have:=J.out;rw[Aq aa]at this;exact this);have ab:=Z (show Calls Tryz.prog 77 #[.pointer (some ⟨rb,0,none⟩),.int .i64 i,.string ⟨#[36,123]⟩] w fun e w'=>e=.returned (.bool true)∧w'=w from by have:=ab.out;rw[At ak]at this;exact this);have O:=Z (show Calls Tryz.prog 77 #[.pointer (some ⟨rb,0,none⟩),.int .i64 i,.string ⟨#[36,40,40]⟩] w fun e w'=>e=.returned (.bool false)∧w'=w from by have:=O.out;rw[Aq ad]at this;exact this);obtain⟨r,W⟩: ∃r,BJ (Ac lv true) 125 [39] 0 (t.drop 2)=r:=⟨_,rfl⟩;have X:=Z (show Ac (lv+1) true t=r.add 2 by rw[←W];unfold Ac;rw[Ah aj,U (fun h=>Ai ((F 92).1 h) (by decide)),U (fun h=>Ai ((F 96).1 h) (by decide)),U (fun h=>Ai ((F 39).1 h) (by decide)),U (fun h=>Ai ((F 34).1 h) (by decide)),U ad,U aa,Ah rfl]);have K:=af 2 125 [39] true (by omega);exact Z2b
  |false=>
   have J:=Z (show Calls Tryz.prog 77 #[.pointer (some ⟨rb,0,none⟩),.int .i64 i,.string ⟨#[36,40]⟩] w fun e w'=>e=.returned (.bool false)∧w'=w from by have:=J.out;rw[Aq aa]at this;exact this);have ab:=Z (show Calls Tryz.prog 77 #[.pointer (some ⟨rb,0,none⟩),.int .i64 i,.string ⟨#[36,123]⟩] w fun e w'=>e=.returned (.bool true)∧w'=w from by have:=ab.out;rw[At ak]at this;exact this);have O:=Z (show Calls Tryz.prog 77 #[.pointer (some ⟨rb,0,none⟩),.int .i64 i,.string ⟨#[36,40,40]⟩] w fun e w'=>e=.returned (.bool false)∧w'=w from by have:=O.out;rw[Aq ad]at this;exact this);obtain⟨r,W⟩: ∃r,BJ (Ac lv false) 125 [] 0 (t.drop 2)=r:=⟨_,rfl⟩;have X:=Z (show Ac (lv+1) false t=r.add 2 by rw[←W];unfold Ac;rw[Ah aj,U (fun h=>Ai ((F 92).1 h) (by decide)),U (fun h=>Ai ((F 96).1 h) (by decide)),U (fun h=>Ai ((F 39).1 h) (by decide)),U (fun h=>Ai ((F 34).1 h) (by decide)),U ad,U aa,U Bool.false_ne_true]);have K:=af 2 125 [] false (by omega);exact Z2b
 have J:=Z (show Calls Tryz.prog 77 #[.pointer (some ⟨rb,0,none⟩),.int .i64 i,.string ⟨#[36,40]⟩] w fun e w'=>e=.returned (.bool false)∧w'=w from by have:=J.out;rw[Aq aa]at this;exact this);have ab:=Z (show Calls Tryz.prog 77 #[.pointer (some ⟨rb,0,none⟩),.int .i64 i,.string ⟨#[36,123]⟩] w fun e w'=>e=.returned (.bool false)∧w'=w from by have:=ab.out;rw[Aq ak]at this;exact this);have O:=Z (show Calls Tryz.prog 77 #[.pointer (some ⟨rb,0,none⟩),.int .i64 i,.string ⟨#[36,40,40]⟩] w fun e w'=>e=.returned (.bool false)∧w'=w from by have:=O.out;rw[Aq ad]at this;exact this);by_cases az:q=false∧c=39
 ·obtain⟨rfl,rfl⟩:=az;have aj:Df false t=true:=ac.2 (.inr (.inr (.inr (.inr ⟨rfl,.inl ((F 39).2 rfl)⟩))));obtain⟨r,W⟩: ∃r,BT 39 false (t.drop 1)=r:=⟨_,rfl⟩;have X:=Z (show Ac (lv+1) false t=r.add 1 by rw[←W];unfold Ac;rw[Ah aj,U (fun h=>Ai ((F 92).1 h) (by decide)),U (fun h=>Ai ((F 96).1 h) (by decide)),Ah ((F 39).2 rfl)]);have K:=Ls rb d (i+1) 39 false l w N (by omega) ao;rw[ae,W,show(((i+1:Nat)):Int)=(i:Int)+1 by omega]at K;have I:=Z (K.mono (R':=fun e w'=>e=r.out (i+1) l.length∧w.grownBy w' (some rb)∧ ∀n,r=.ok n→B8 w' rb l d) (by rintro e w' ⟨rfl,rfl⟩;exact⟨rfl,AB _ _,fun _ _=>ap.out⟩));clear K af N aa ak ad F ai ac ae;rcases Ew r (i+1) l.length with⟨n,al,z⟩|⟨f,z,aq⟩
  ·rw[show(((i+1:Nat)):Int)=(i:Int)+1 by omega]at z;rw[z]at I;go_enter Tryz.func96,Tryz.ntmps96;go_wp2_with fail;refine J.out.mono ?_;rintro e G ⟨rfl,rfl⟩;go_wp2_with fail;refine ab.out.mono ?_;exact Z2c
  ·rw[z]at I;go_enter Tryz.func96,Tryz.ntmps96;go_wp2_with fail;refine J.out.mono ?_;rintro e G ⟨rfl,rfl⟩;go_wp2_with fail;refine ab.out.mono ?_;exact Z2d
 by_cases aA:q=false∧c=34
 ·obtain⟨rfl,rfl⟩:=aA;have aj:Df false t=true:=ac.2 (.inr (.inr (.inr (.inr ⟨rfl,.inr ((F 34).2 rfl)⟩))));obtain⟨r,W⟩: ∃r,BJ (Ac lv true) 34 [39] 0 (t.drop 1)=r:=⟨_,rfl⟩;have X:=Z (show Ac (lv+1) false t=r.add 1 by rw[←W];unfold Ac;rw[Ah aj,U (fun h=>Ai ((F 92).1 h) (by decide)),U (fun h=>Ai ((F 96).1 h) (by decide)),U (fun h=>Ai ((F 39).1 h) (by decide)),Ah ((F 34).2 rfl)]);have K:=af 1 34 [39] true (by omega);rw[ae,W,show(((i+1:Nat)):Int)=(i:Int)+1 by omega]at K;have I:=Z K;clear K af N aa ak ad F ai ac ae;rcases Ew r (i+1) l.length with⟨n,al,z⟩|⟨f,z,aq⟩
  ·rw[show(((i+1:Nat)):Int)=(i:Int)+1 by omega]at z;rw[z]at I;go_enter Tryz.func96,Tryz.ntmps96;go_wp2_with fail;refine J.out.mono ?_;rintro e G ⟨rfl,rfl⟩;go_wp2_with fail;refine ab.out.mono ?_;exact Z2c
  ·rw[z]at I;go_enter Tryz.func96,Tryz.ntmps96;go_wp2_with fail;refine J.out.mono ?_;rintro e G ⟨rfl,rfl⟩;go_wp2_with fail;refine ab.out.mono ?_;exact Z2d
 have aE: ¬Df q t=true:=by
  rw[ac];rintro(h|h|h|h|⟨ar,h|h⟩)
  ·exact ax ((F 92).1 h)
  ·exact ay ((F 96).1 h)
  ·exact aa h
  ·exact ak h
  ·exact az ⟨ar,(F 39).1 h⟩
  ·exact aA ⟨ar,(F 34).1 h⟩
 have am:Ac (lv+1) q t=.ok 0:=(by unfold Ac;rw[U aE]);rw[am];have ways:q=true∨(q=false∧((c.toNat:Int)==39)=false∧((c.toNat:Int)==34)=false):=by
  cases q with
  |true=>exact .inl rfl
  |false=>exact .inr ⟨rfl,Au (d:=39) (fun e=>az ⟨rfl,e⟩),Au (d:=34) (fun e=>aA ⟨rfl,e⟩)⟩
 clear am aE F ai ac ae af N aa ak ad az aA ax ay au;rcases ways with rfl|⟨rfl,a0,a1⟩
 all_goals
  go_enter Tryz.func96,Tryz.ntmps96;go_wp2_with fail;refine J.out.mono ?_;rintro e G ⟨rfl,rfl⟩;go_wp2_with fail;refine ab.out.mono ?_;rintro e G ⟨rfl,rfl⟩;go_wp2_with fail;exact bodyPost_ret (results_tmp (t:=6) rfl _ _ _) rfl ⟨by simp[Rs.out],AB _ _,fun n al=>ap.out⟩
theorem O5: ∀lv,Kw lv
 |0=>Pe
 |lv+1=>QM lv (O5 lv)
end Go.Proofs.YtdhfhphbkfgamaaGreat.Lx
