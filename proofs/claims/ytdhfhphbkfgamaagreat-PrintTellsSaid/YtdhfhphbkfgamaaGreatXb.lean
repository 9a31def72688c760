/- A part. -/
import Derived.Test.YtdhfhphbkfgamaaGreatXa
set_option maxRecDepth 100000
set_option linter.all false
set_option maxHeartbeats 0
namespace Go.Proofs.YtdhfhphbkfgamaaGreat.Lx
open Go.RowKit Proofs.Tryz
theorem Uj(r:Rs)(i k h:Nat):(r.add k).out i h=r.out (i+k) h:=by
 cases r with
 |ok n=>simp[Rs.add,Rs.out];omega
 |more=>rfl
 |deep a=>simp[Rs.add,Rs.out,Eu];omega
theorem RT{l:List UInt8}{i:Nat}{c:UInt8}(h:i<l.length)(z:l[i]=c)(d:UInt8):((l.drop i).take 1=[d])↔c=d:=by
 rw[CF h,z];show [c]=[d]↔_;simp
theorem Oe{l:List UInt8}{i:Nat}{c a b:UInt8}(z:i<l.length)(F:l[i]=c)(h:(l.drop i).take 2=[a,b]):c=a:=by
 rw[CF z,F]at h;have:c::(l.drop (i+1)).take 1=[a,b]:=h;injection this
theorem Ip{t:List UInt8}{a b c:UInt8}(h:t.take 3=[a,b,c]):t.take 2=[a,b]:=by
 match t,h with
 |[],h=>cases h
 |[x],h=>cases h
 |[x,y],h=>cases h
 |x::y::F::r,h=>
  have:[x,y,F]=[a,b,c]:=h;injection this with G z;injection z with z I;subst G z;rfl
theorem RZ{lv rb d i k:Nat}{q:Bool}{l:List UInt8}{w w':World}{r:Rs}{e:Ending}(h:Ad lv q (l.drop i)=r.add k)(F:e=r.out (i+k) l.length)(G:w.grownBy w' (some rb))(I:∀n,r=.ok n->CB w' rb l d):
  e=(Ad lv q (l.drop i)).out i l.length/\w.grownBy w' (some rb)/\ ∀n,Ad lv q (l.drop i)=.ok n->CB w' rb l d:=by
 refine⟨by rw[h,Uj,F],G,fun n z=>?_⟩;rw[h]at z;obtain⟨m,J,_⟩:=Rs.C1 z;exact I m J
theorem FB(r:Rs)(i z:Nat):(∃n,r=.ok n/\r.out i z=.returned (.int .i64 ((i:Int)+n)))\/(∃f,r.out i z=.panicked [f]/\ ∀n,r≠.ok n):=by
 cases r with
 |ok n=>exact .inl ⟨n,rfl,rfl⟩
 |more=>exact .inr ⟨_,rfl,fun n h=>by cases h⟩
 |deep a=>exact .inr ⟨_,rfl,fun n h=>by cases h⟩
theorem By(q:Bool)(t:List UInt8):Dr q t=true↔t.take 1=[92]\/t.take 1=[96]\/t.take 2=[36,40]\/t.take 2=[36,123]\/(q=false/\(t.take 1=[39]\/t.take 1=[34])):=by
 unfold Dr;simp only[GX,CN,Di,Bool.not_eq_true',or_assoc]
theorem Qr:Kn 0:=by
 intro rb d i q l w F ap ad ae;have I:=Z (Gw rb d i l [36,40] w F (by omega) ae (by decide));have K:=Z (Gw rb d i l [36,123] w F (by omega) ae (by decide));have af:=Z (Gw rb d i l [36,40,40] w F (by omega) ae (by decide));unfold sv at I K af;have ak:=Z F;have aq:=F.c0;have ar:=F.c1;have au:=Y.lt F;have ag:=sz l;have al:=BE l i ad;have aw:(0:Int)<=i/\(i:Int)<(l.length:Int):=(by omega);obtain⟨c,ah⟩:=U (l[i]);rw[ah]at al;have t1:=fun e=>RT ad ah e
 have t2:=fun a b (h:(l.drop i).take 2=[a,b])=>Oe ad ah h
 have am:1<=(l.drop i).length:=(by rw[D8];omega);have an:(l.drop i).length<2↔l.length<i+2:=(by rw[D8];omega);have z:=By q (l.drop i);obtain⟨t,ai⟩:=U (l.drop i);have W:∀k,l.drop (i+k)=t.drop k:=fun k=>by rw[<-ai,List.drop_drop]
 rw[ai]at I K af t1 t2 am an z;simp only[BR,CU,Dc,Nat.reduceAdd]at I K af;suffices ao:Calls prog 96 #[.pointer (some ⟨rb,0,none⟩),.int .i64 i,.bool q] w fun e w'=>e=(Ad 0 q t).out i l.length/\w.grownBy w' (some rb)/\ ∀n,Ad 0 q t=.ok n->CB w' rb l d by
  rw[ai];exact ao
 have ax:decide ((24:Int)<(d:Int))=true:=(by simp;omega);have G:Dr q t=true->Ad 0 q t=.deep 0:=fun h=>by unfold Ad;rw[Ai h]
 have N:¬Dr q t=true->Ad 0 q t=.ok 0:=fun h=>by unfold Ad;rw[AP h]
 by_cases X:c=92
 ·subst X;rw[G (z.2 (.inl ((t1 92).2 rfl)))];clear G N t1 t2 z W F;go_enter func96,ntmps96;go_wp2_with fail;exact Bb rfl ⟨by simp[Rs.out,Eu],AB _ _,fun n J=>by cases J⟩
 have ay:((c.toNat:Int)==92)=false:=Aw X;by_cases aa:c=96
 ·subst aa;rw[G (z.2 (.inr (.inl ((t1 96).2 rfl))))];clear G N t1 t2 z W F;go_enter func96,ntmps96;go_wp2_with fail;exact Bb rfl ⟨by simp[Rs.out,Eu],AB _ _,fun n J=>by cases J⟩
 have az:((c.toNat:Int)==96)=false:=Aw aa;by_cases L:t.take 2=[36,40]
 ·obtain rfl:=t2 _ _ L;have I:=Z (show Calls prog 77 #[.pointer (some ⟨rb,0,none⟩),.int .i64 i,.string ⟨#[36,40]⟩] w fun e w'=>e=.returned (.bool true)/\w'=w from by have:=I.out;rw[Au L]at this;exact this);rw[G (z.2 (.inr (.inr (.inl L))))];clear G N t1 t2 z W F L;go_enter func96,ntmps96;go_wp2_with fail;refine I.out.mono ?_;rintro e O ⟨rfl,rfl⟩;go_wp2_with fail;exact Bb rfl ⟨by simp[Rs.out,Eu],AB _ _,fun n J=>by cases J⟩
 have I:=Z (show Calls prog 77 #[.pointer (some ⟨rb,0,none⟩),.int .i64 i,.string ⟨#[36,40]⟩] w fun e w'=>e=.returned (.bool false)/\w'=w from by have:=I.out;rw[As L]at this;exact this);by_cases M:t.take 2=[36,123]
 ·obtain rfl:=t2 _ _ M;have K:=Z (show Calls prog 77 #[.pointer (some ⟨rb,0,none⟩),.int .i64 i,.string ⟨#[36,123]⟩] w fun e w'=>e=.returned (.bool true)/\w'=w from by have:=K.out;rw[Au M]at this;exact this);rw[G (z.2 (.inr (.inr (.inr (.inl M)))))];clear G N t1 t2 z W F L M;go_enter func96,ntmps96;go_wp2_with fail;refine I.out.mono ?_;rintro e O ⟨rfl,rfl⟩;go_wp2_with fail;refine K.out.mono ?_;rintro e O ⟨rfl,rfl⟩;go_wp2_with fail;exact Bb rfl ⟨by simp[Rs.out,Eu],AB _ _,fun n J=>by cases J⟩
 have K:=Z (show Calls prog 77 #[.pointer (some ⟨rb,0,none⟩),.int .i64 i,.string ⟨#[36,123]⟩] w fun e w'=>e=.returned (.bool false)/\w'=w from by have:=K.out;rw[As M]at this;exact this);by_cases ab:q=false/\c=39
 ·obtain⟨rfl,rfl⟩:=ab;rw[G (z.2 (.inr (.inr (.inr (.inr ⟨rfl,.inl ((t1 39).2 rfl)⟩)))))];clear G N t1 t2 z W F L M;go_enter func96,ntmps96;go_wp2_with fail;refine I.out.mono ?_;rintro e O ⟨rfl,rfl⟩;go_wp2_with fail;refine K.out.mono ?_;rintro e O ⟨rfl,rfl⟩;go_wp2_with fail;exact Bb rfl ⟨by simp[Rs.out,Eu],AB _ _,fun n J=>by cases J⟩
 by_cases ac:q=false/\c=34
 ·obtain⟨rfl,rfl⟩:=ac;rw[G (z.2 (.inr (.inr (.inr (.inr ⟨rfl,.inr ((t1 34).2 rfl)⟩)))))];clear G N t1 t2 z W F L M;go_enter func96,ntmps96;go_wp2_with fail;refine I.out.mono ?_;rintro e O ⟨rfl,rfl⟩;go_wp2_with fail;refine K.out.mono ?_;rintro e O ⟨rfl,rfl⟩;go_wp2_with fail;exact Bb rfl ⟨by simp[Rs.out,Eu],AB _ _,fun n J=>by cases J⟩
 have aj:¬Dr q t=true:=by
  rw[z];rintro(h|h|h|h|⟨ag,h|h⟩)
  ·exact X ((t1 92).1 h)
  ·exact aa ((t1 96).1 h)
  ·exact L h
  ·exact M h
  ·exact ab ⟨ag,(t1 39).1 h⟩
  ·exact ac ⟨ag,(t1 34).1 h⟩
 rw[N aj];have ways:q=true\/(q=false/\((c.toNat:Int)==39)=false/\((c.toNat:Int)==34)=false):=by
  cases q with
  |true=>exact .inl rfl
  |false=>exact .inr ⟨rfl,Aw (d:=39) (fun e=>ab ⟨rfl,e⟩),Aw (d:=34) (fun e=>ac ⟨rfl,e⟩)⟩
 clear G N aj t1 t2 z W F L M ab ac X aa;rcases ways with rfl|⟨rfl,aA,aB⟩
 all_goals
  go_enter func96,ntmps96;go_wp2_with fail;refine I.out.mono ?_;rintro e O ⟨rfl,rfl⟩;go_wp2_with fail;refine K.out.mono ?_;rintro e O ⟨rfl,rfl⟩;go_wp2_with fail;exact bodyPost_ret (results_tmp (t:=6) rfl _ _ _) rfl ⟨by simp[Rs.out],AB _ _,fun n J=>ak.out⟩
theorem Qi(lv:Nat)(aD:Kn lv):Kn (lv+1):=by
 intro rb d i q l w M aP az am;have I:=Z (Gw rb d i l [36,40] w M (by omega) am (by decide));have aa:=Z (Gw rb d i l [36,123] w M (by omega) am (by decide));have N:=Z (Gw rb d i l [36,40,40] w M (by omega) am (by decide));unfold sv at I aa N;have an:=Z M;have aQ:=M.c0;have aR:=M.c1;have aS:=Y.lt M;have ap:=sz l;have aE:=BE l i az;have aT:(0:Int)<=i/\(i:Int)<(l.length:Int):=(by omega);obtain⟨c,aA⟩:=U (l[i]);rw[aA]at aE;have t1:=fun e=>RT az aA e
 have t2:=fun a b (h:(l.drop i).take 2=[a,b])=>Oe az aA h
 have aF:1<=(l.drop i).length:=(by rw[D8];omega);have aB:(l.drop i).length<2↔l.length<i+2:=(by rw[D8];omega);have ab:=By q (l.drop i);obtain⟨t,al⟩:=U (l.drop i);have ad:∀k,l.drop (i+k)=t.drop k:=fun k=>by rw[<-al,List.drop_drop]
 rw[al]at I aa N t1 t2 aF aB ab;simp only[BR,CU,Dc,Nat.reduceAdd]at I aa N;suffices aG:Calls prog 96 #[.pointer (some ⟨rb,0,none⟩),.int .i64 i,.bool q] w fun e w'=>e=(Ad (lv+1) q t).out i l.length/\w.grownBy w' (some rb)/\ ∀n,Ad (lv+1) q t=.ok n->CB w' rb l d by
  rw[al];exact aG
 have aq:∀(k:Nat) (w':World) (r:Rs) (e:Ending),Ad (lv+1) q t=r.add k->e=r.out (i+k) l.length->w.grownBy w' (some rb)->(∀n,r=.ok n->CB w' rb l d)->e=(Ad (lv+1) q t).out i l.length/\w.grownBy w' (some rb)/\ ∀n,Ad (lv+1) q t=.ok n->CB w' rb l d:=by
  intro k w' r e ap ar aH aI;have:=RZ (lv:=lv+1) (q:=q) (l:=l) (i:=i) (by rw[al];exact ap) ar aH aI;rwa [al]at this
 have af:=Z aq;have aU:decide ((24:Int)<(d:Int))=false:=(by simp;omega);have ae:=fun(k:Nat) (e:UInt8) (aJ:List UInt8) (aK:Bool) (hk:i+k<=l.length)=>OO lv aD rb d (i+k) e aJ aK l w an.out (by omega) hk am
 unfold sv at ae;by_cases au:c=92
 ·subst au;have ah:Dr q t=true:=ab.2 (.inl ((t1 92).2 rfl));have ak:Ad (lv+1) q t=if t.length<2 then .more else .ok 2:=(by unfold Ad;rw[Ai ah,Ai ((t1 92).2 rfl)]);by_cases ar:l.length<i+2
  ·have aL:decide ((l.length:Int)<(i:Int)+2)=true:=(by simp;omega);rw[Ai (aB.2 ar)]at ak;have aM:=Z (Jb rb d l w M);rw[ak];clear ak t1 t2 ab ad ae aq M;go_enter func96,ntmps96;go_wp2_with fail;refine aM.out.mono ?_;rintro e ag ⟨rfl,rfl⟩;exact Bb rfl ⟨rfl,AB _ _,fun n aj=>by cases aj⟩
  ·have aL:decide ((l.length:Int)<(i:Int)+2)=false:=(by simp;omega);rw[AP (fun h=>ar (aB.1 h))]at ak;rw[ak];clear ak t1 t2 ab ad ae aq M;go_enter func96,ntmps96;go_wp2_with fail;refine bodyPost_ret (results_tmp (t:=6) rfl _ _ _) rfl ⟨rfl,AB _ _,fun n aj=>an.out⟩
 have aV:((c.toNat:Int)==92)=false:=Aw au;by_cases aw:c=96
 ·subst aw;have ah:Dr q t=true:=ab.2 (.inr (.inl ((t1 96).2 rfl)));obtain⟨r,O⟩:=U (BV 96 true (t.drop 1));have W:=Z (show Ad (lv+1) q t=r.add 1 by rw[<-O];unfold Ad;rw[Ai ah,AP (fun h=>Aj ((t1 92).1 h) (by decide)),Ai ((t1 96).2 rfl)]);have J:=MW rb d (i+1) 96 true l w M (by omega) am;rw[ad,O,show(((i+1:Nat)):Int)=(i:Int)+1 by omega]at J;have G:=Z (J.mono (R':=fun e w'=>e=r.out (i+1) l.length/\w.grownBy w' (some rb)/\ ∀n,r=.ok n->CB w' rb l d) (by rintro e w' ⟨rfl,rfl⟩;exact⟨rfl,AB _ _,fun _ _=>an.out⟩));clear J ae M t1 t2 ab ad;rcases FB r (i+1) l.length with⟨n,aj,z⟩|⟨f,z,ao⟩
  ·rw[show(((i+1:Nat)):Int)=(i:Int)+1 by omega]at z;rw[z]at G;go_enter func96,ntmps96;go_wp2_with fail;refine G.out.mono ?_;rintro e ag ⟨rfl,K,L⟩;go_wp2_with fail;exact bodyPost_ret (results_tmp (t:=6) rfl _ _ _) rfl (by rw[al]at*;exact af.out _ _ _ _ W.out z.symm K L)
  ·rw[z]at G;go_enter func96,ntmps96;go_wp2_with fail;refine G.out.mono ?_;rintro e ag ⟨rfl,K,L⟩;exact Bb rfl (af.out _ _ _ _ W.out z.symm K L)
 have aW:((c.toNat:Int)==96)=false:=Aw aw;by_cases X:t.take 2=[36,40]
 ·obtain rfl:=t2 _ _ X;have ah:Dr q t=true:=ab.2 (.inr (.inr (.inl X)));have aN:2<=t.length:=(by have:=take_len X;simpa using this);have aO:t.length=l.length-i:=(by rw[<-al,D8]);by_cases ac:t.take 3=[36,40,40]
  ·have aX:3<=t.length:=(by have:=take_len ac;simpa using this);have I:=Z (show Calls prog 77 #[.pointer (some ⟨rb,0,none⟩),.int .i64 i,.string ⟨#[36,40]⟩] w fun e w'=>e=.returned (.bool true)/\w'=w from by have:=I.out;rw[Au X]at this;exact this);have N:=Z (show Calls prog 77 #[.pointer (some ⟨rb,0,none⟩),.int .i64 i,.string ⟨#[36,40,40]⟩] w fun e w'=>e=.returned (.bool true)/\w'=w from by have:=N.out;rw[Au ac]at this;exact this);obtain⟨r,O⟩:=U (Bq 0 (t.drop 3));have W:=Z (show Ad (lv+1) q t=r.add 3 by rw[<-O];unfold Ad;rw[Ai ah,AP (fun h=>Aj ((t1 92).1 h) (by decide)),AP (fun h=>Aj ((t1 96).1 h) (by decide)),AP (fun h=>Aj ((t1 39).1 h) (by decide)),AP (fun h=>Aj ((t1 34).1 h) (by decide)),Ai ac]);have J:=SM rb d (i+3) l w M (by omega) am;rw[ad,O,show(((i+3:Nat)):Int)=(i:Int)+3 by omega]at J;have G:=Z (J.mono (R':=fun e w'=>e=r.out (i+3) l.length/\w.grownBy w' (some rb)/\ ∀n,r=.ok n->CB w' rb l d) (by rintro e w' ⟨rfl,rfl⟩;exact⟨rfl,AB _ _,fun _ _=>an.out⟩));clear J ae M X ac t1 t2 ab ad;rcases FB r (i+3) l.length with⟨n,aj,z⟩|⟨f,z,ao⟩
   ·rw[show(((i+3:Nat)):Int)=(i:Int)+3 by omega]at z;rw[z]at G;go_enter func96,ntmps96;go_wp2_with fail;refine I.out.mono ?_;rintro e F ⟨rfl,rfl⟩;go_wp2_with fail;refine N.out.mono ?_;rintro e F ⟨rfl,rfl⟩;go_wp2_with fail;refine G.out.mono ?_;rintro e ag ⟨rfl,K,L⟩;go_wp2_with fail;exact bodyPost_ret (results_tmp (t:=6) rfl _ _ _) rfl (af.out _ _ _ _ W.out z.symm K L)
   ·rw[z]at G;go_enter func96,ntmps96;go_wp2_with fail;refine I.out.mono ?_;rintro e F ⟨rfl,rfl⟩;go_wp2_with fail;refine N.out.mono ?_;rintro e F ⟨rfl,rfl⟩;go_wp2_with fail;refine G.out.mono ?_;rintro e ag ⟨rfl,K,L⟩;exact Bb rfl (af.out _ _ _ _ W.out z.symm K L)
  ·skip
   have I:=Z (show Calls prog 77 #[.pointer (some ⟨rb,0,none⟩),.int .i64 i,.string ⟨#[36,40]⟩] w fun e w'=>e=.returned (.bool true)/\w'=w from by have:=I.out;rw[Au X]at this;exact this);have N:=Z (show Calls prog 77 #[.pointer (some ⟨rb,0,none⟩),.int .i64 i,.string ⟨#[36,40,40]⟩] w fun e w'=>e=.returned (.bool false)/\w'=w from by have:=N.out;rw[As ac]at this;exact this);obtain⟨r,O⟩:=U (BL (Ad lv false) 41 [] 0 (t.drop 2));have W:=Z (show Ad (lv+1) q t=r.add 2 by rw[<-O];unfold Ad;rw[Ai ah,AP (fun h=>Aj ((t1 92).1 h) (by decide)),AP (fun h=>Aj ((t1 96).1 h) (by decide)),AP (fun h=>Aj ((t1 39).1 h) (by decide)),AP (fun h=>Aj ((t1 34).1 h) (by decide)),AP ac,Ai X]);have J:=ae 2 41 [] false (by omega);rw[ad,O,show(((i+2:Nat)):Int)=(i:Int)+2 by omega]at J;have G:=Z J;clear J ae M X ac t1 t2 ab ad;rcases FB r (i+2) l.length with⟨n,aj,z⟩|⟨f,z,ao⟩
   ·rw[show(((i+2:Nat)):Int)=(i:Int)+2 by omega]at z;rw[z]at G;go_enter func96,ntmps96;go_wp2_with fail;refine I.out.mono ?_;rintro e F ⟨rfl,rfl⟩;go_wp2_with fail;refine N.out.mono ?_;rintro e F ⟨rfl,rfl⟩;go_wp2_with fail;refine I.out.mono ?_;rintro e F ⟨rfl,rfl⟩;go_wp2_with fail;refine G.out.mono ?_;rintro e ag ⟨rfl,K,L⟩;go_wp2_with fail;exact bodyPost_ret (results_tmp (t:=6) rfl _ _ _) rfl (af.out _ _ _ _ W.out z.symm K L)
   ·rw[z]at G;go_enter func96,ntmps96;go_wp2_with fail;refine I.out.mono ?_;rintro e F ⟨rfl,rfl⟩;go_wp2_with fail;refine N.out.mono ?_;rintro e F ⟨rfl,rfl⟩;go_wp2_with fail;refine I.out.mono ?_;rintro e F ⟨rfl,rfl⟩;go_wp2_with fail;refine G.out.mono ?_;rintro e ag ⟨rfl,K,L⟩;exact Bb rfl (af.out _ _ _ _ W.out z.symm K L)
 have ac:¬t.take 3=[36,40,40]:=fun h=>X (Ip h)
 by_cases ai:t.take 2=[36,123]
 ·obtain rfl:=t2 _ _ ai;have ah:Dr q t=true:=ab.2 (.inr (.inr (.inr (.inl ai))));have aN:2<=t.length:=(by have:=take_len ai;simpa using this);have aO:t.length=l.length-i:=(by rw[<-al,D8]);cases q with
  |true=>
   have I:=Z (show Calls prog 77 #[.pointer (some ⟨rb,0,none⟩),.int .i64 i,.string ⟨#[36,40]⟩] w fun e w'=>e=.returned (.bool false)/\w'=w from by have:=I.out;rw[As X]at this;exact this);have aa:=Z (show Calls prog 77 #[.pointer (some ⟨rb,0,none⟩),.int .i64 i,.string ⟨#[36,123]⟩] w fun e w'=>e=.returned (.bool true)/\w'=w from by have:=aa.out;rw[Au ai]at this;exact this);have N:=Z (show Calls prog 77 #[.pointer (some ⟨rb,0,none⟩),.int .i64 i,.string ⟨#[36,40,40]⟩] w fun e w'=>e=.returned (.bool false)/\w'=w from by have:=N.out;rw[As ac]at this;exact this);obtain⟨r,O⟩:=U (BL (Ad lv true) 125 [39] 0 (t.drop 2));have W:=Z (show Ad (lv+1) true t=r.add 2 by rw[<-O];unfold Ad;rw[Ai ah,AP (fun h=>Aj ((t1 92).1 h) (by decide)),AP (fun h=>Aj ((t1 96).1 h) (by decide)),AP (fun h=>Aj ((t1 39).1 h) (by decide)),AP (fun h=>Aj ((t1 34).1 h) (by decide)),AP ac,AP X,Ai rfl]);have J:=ae 2 125 [39] true (by omega);rw[ad,O,show(((i+2:Nat)):Int)=(i:Int)+2 by omega]at J;have G:=Z J;clear J ae M X ai ac t1 t2 ab ad;rcases FB r (i+2) l.length with⟨n,aj,z⟩|⟨f,z,ao⟩
   ·rw[show(((i+2:Nat)):Int)=(i:Int)+2 by omega]at z;rw[z]at G;go_enter func96,ntmps96;go_wp2_with fail;refine I.out.mono ?_;rintro e F ⟨rfl,rfl⟩;go_wp2_with fail;refine aa.out.mono ?_;rintro e F ⟨rfl,rfl⟩;go_wp2_with fail;refine N.out.mono ?_;rintro e F ⟨rfl,rfl⟩;go_wp2_with fail;refine I.out.mono ?_;rintro e F ⟨rfl,rfl⟩;go_wp2_with fail;refine G.out.mono ?_;rintro e ag ⟨rfl,K,L⟩;go_wp2_with fail;exact bodyPost_ret (results_tmp (t:=6) rfl _ _ _) rfl (af.out _ _ _ _ W.out z.symm K L)
   ·rw[z]at G;go_enter func96,ntmps96;go_wp2_with fail;refine I.out.mono ?_;rintro e F ⟨rfl,rfl⟩;go_wp2_with fail;refine aa.out.mono ?_;rintro e F ⟨rfl,rfl⟩;go_wp2_with fail;refine N.out.mono ?_;rintro e F ⟨rfl,rfl⟩;go_wp2_with fail;refine I.out.mono ?_;rintro e F ⟨rfl,rfl⟩;go_wp2_with fail;refine G.out.mono ?_;rintro e ag ⟨rfl,K,L⟩;exact Bb rfl (af.out _ _ _ _ W.out z.symm K L)
  |false=>
   have I:=Z (show Calls prog 77 #[.pointer (some ⟨rb,0,none⟩),.int .i64 i,.string ⟨#[36,40]⟩] w fun e w'=>e=.returned (.bool false)/\w'=w from by have:=I.out;rw[As X]at this;exact this);have aa:=Z (show Calls prog 77 #[.pointer (some ⟨rb,0,none⟩),.int .i64 i,.string ⟨#[36,123]⟩] w fun e w'=>e=.returned (.bool true)/\w'=w from by have:=aa.out;rw[Au ai]at this;exact this);have N:=Z (show Calls prog 77 #[.pointer (some ⟨rb,0,none⟩),.int .i64 i,.string ⟨#[36,40,40]⟩] w fun e w'=>e=.returned (.bool false)/\w'=w from by have:=N.out;rw[As ac]at this;exact this);obtain⟨r,O⟩:=U (BL (Ad lv false) 125 [] 0 (t.drop 2));have W:=Z (show Ad (lv+1) false t=r.add 2 by rw[<-O];unfold Ad;rw[Ai ah,AP (fun h=>Aj ((t1 92).1 h) (by decide)),AP (fun h=>Aj ((t1 96).1 h) (by decide)),AP (fun h=>Aj ((t1 39).1 h) (by decide)),AP (fun h=>Aj ((t1 34).1 h) (by decide)),AP ac,AP X,AP Bool.false_ne_true]);have J:=ae 2 125 [] false (by omega);rw[ad,O,show(((i+2:Nat)):Int)=(i:Int)+2 by omega]at J;have G:=Z J;clear J ae M X ai ac t1 t2 ab ad;rcases FB r (i+2) l.length with⟨n,aj,z⟩|⟨f,z,ao⟩
   ·rw[show(((i+2:Nat)):Int)=(i:Int)+2 by omega]at z;rw[z]at G;go_enter func96,ntmps96;go_wp2_with fail;refine I.out.mono ?_;rintro e F ⟨rfl,rfl⟩;go_wp2_with fail;refine aa.out.mono ?_;rintro e F ⟨rfl,rfl⟩;go_wp2_with fail;refine N.out.mono ?_;rintro e F ⟨rfl,rfl⟩;go_wp2_with fail;refine I.out.mono ?_;rintro e F ⟨rfl,rfl⟩;go_wp2_with fail;refine G.out.mono ?_;rintro e ag ⟨rfl,K,L⟩;go_wp2_with fail;exact bodyPost_ret (results_tmp (t:=6) rfl _ _ _) rfl (af.out _ _ _ _ W.out z.symm K L)
   ·rw[z]at G;go_enter func96,ntmps96;go_wp2_with fail;refine I.out.mono ?_;rintro e F ⟨rfl,rfl⟩;go_wp2_with fail;refine aa.out.mono ?_;rintro e F ⟨rfl,rfl⟩;go_wp2_with fail;refine N.out.mono ?_;rintro e F ⟨rfl,rfl⟩;go_wp2_with fail;refine I.out.mono ?_;rintro e F ⟨rfl,rfl⟩;go_wp2_with fail;refine G.out.mono ?_;rintro e ag ⟨rfl,K,L⟩;exact Bb rfl (af.out _ _ _ _ W.out z.symm K L)
 have I:=Z (show Calls prog 77 #[.pointer (some ⟨rb,0,none⟩),.int .i64 i,.string ⟨#[36,40]⟩] w fun e w'=>e=.returned (.bool false)/\w'=w from by have:=I.out;rw[As X]at this;exact this);have aa:=Z (show Calls prog 77 #[.pointer (some ⟨rb,0,none⟩),.int .i64 i,.string ⟨#[36,123]⟩] w fun e w'=>e=.returned (.bool false)/\w'=w from by have:=aa.out;rw[As ai]at this;exact this);have N:=Z (show Calls prog 77 #[.pointer (some ⟨rb,0,none⟩),.int .i64 i,.string ⟨#[36,40,40]⟩] w fun e w'=>e=.returned (.bool false)/\w'=w from by have:=N.out;rw[As ac]at this;exact this);by_cases ax:q=false/\c=39
 ·obtain⟨rfl,rfl⟩:=ax;have ah:Dr false t=true:=ab.2 (.inr (.inr (.inr (.inr ⟨rfl,.inl ((t1 39).2 rfl)⟩))));obtain⟨r,O⟩:=U (BV 39 false (t.drop 1));have W:=Z (show Ad (lv+1) false t=r.add 1 by rw[<-O];unfold Ad;rw[Ai ah,AP (fun h=>Aj ((t1 92).1 h) (by decide)),AP (fun h=>Aj ((t1 96).1 h) (by decide)),Ai ((t1 39).2 rfl)]);have J:=MW rb d (i+1) 39 false l w M (by omega) am;rw[ad,O,show(((i+1:Nat)):Int)=(i:Int)+1 by omega]at J;have G:=Z (J.mono (R':=fun e w'=>e=r.out (i+1) l.length/\w.grownBy w' (some rb)/\ ∀n,r=.ok n->CB w' rb l d) (by rintro e w' ⟨rfl,rfl⟩;exact⟨rfl,AB _ _,fun _ _=>an.out⟩));clear J ae M X ai ac t1 t2 ab ad;rcases FB r (i+1) l.length with⟨n,aj,z⟩|⟨f,z,ao⟩
  ·rw[show(((i+1:Nat)):Int)=(i:Int)+1 by omega]at z;rw[z]at G;go_enter func96,ntmps96;go_wp2_with fail;refine I.out.mono ?_;rintro e F ⟨rfl,rfl⟩;go_wp2_with fail;refine aa.out.mono ?_;rintro e F ⟨rfl,rfl⟩;go_wp2_with fail;refine G.out.mono ?_;rintro e ag ⟨rfl,K,L⟩;go_wp2_with fail;exact bodyPost_ret (results_tmp (t:=6) rfl _ _ _) rfl (af.out _ _ _ _ W.out z.symm K L)
  ·rw[z]at G;go_enter func96,ntmps96;go_wp2_with fail;refine I.out.mono ?_;rintro e F ⟨rfl,rfl⟩;go_wp2_with fail;refine aa.out.mono ?_;rintro e F ⟨rfl,rfl⟩;go_wp2_with fail;refine G.out.mono ?_;rintro e ag ⟨rfl,K,L⟩;exact Bb rfl (af.out _ _ _ _ W.out z.symm K L)
 by_cases ay:q=false/\c=34
 ·obtain⟨rfl,rfl⟩:=ay;have ah:Dr false t=true:=ab.2 (.inr (.inr (.inr (.inr ⟨rfl,.inr ((t1 34).2 rfl)⟩))));obtain⟨r,O⟩:=U (BL (Ad lv true) 34 [39] 0 (t.drop 1));have W:=Z (show Ad (lv+1) false t=r.add 1 by rw[<-O];unfold Ad;rw[Ai ah,AP (fun h=>Aj ((t1 92).1 h) (by decide)),AP (fun h=>Aj ((t1 96).1 h) (by decide)),AP (fun h=>Aj ((t1 39).1 h) (by decide)),Ai ((t1 34).2 rfl)]);have J:=ae 1 34 [39] true (by omega);rw[ad,O,show(((i+1:Nat)):Int)=(i:Int)+1 by omega]at J;have G:=Z J;clear J ae M X ai ac t1 t2 ab ad;rcases FB r (i+1) l.length with⟨n,aj,z⟩|⟨f,z,ao⟩
  ·rw[show(((i+1:Nat)):Int)=(i:Int)+1 by omega]at z;rw[z]at G;go_enter func96,ntmps96;go_wp2_with fail;refine I.out.mono ?_;rintro e F ⟨rfl,rfl⟩;go_wp2_with fail;refine aa.out.mono ?_;rintro e F ⟨rfl,rfl⟩;go_wp2_with fail;refine G.out.mono ?_;rintro e ag ⟨rfl,K,L⟩;go_wp2_with fail;exact bodyPost_ret (results_tmp (t:=6) rfl _ _ _) rfl (af.out _ _ _ _ W.out z.symm K L)
  ·rw[z]at G;go_enter func96,ntmps96;go_wp2_with fail;refine I.out.mono ?_;rintro e F ⟨rfl,rfl⟩;go_wp2_with fail;refine aa.out.mono ?_;rintro e F ⟨rfl,rfl⟩;go_wp2_with fail;refine G.out.mono ?_;rintro e ag ⟨rfl,K,L⟩;exact Bb rfl (af.out _ _ _ _ W.out z.symm K L)
 have aC:¬Dr q t=true:=by
  rw[ab];rintro(h|h|h|h|⟨ap,h|h⟩)
  ·exact au ((t1 92).1 h)
  ·exact aw ((t1 96).1 h)
  ·exact X h
  ·exact ai h
  ·exact ax ⟨ap,(t1 39).1 h⟩
  ·exact ay ⟨ap,(t1 34).1 h⟩
 have ak:Ad (lv+1) q t=.ok 0:=(by unfold Ad;rw[AP aC]);rw[ak];have ways:q=true\/(q=false/\((c.toNat:Int)==39)=false/\((c.toNat:Int)==34)=false):=by
  cases q with
  |true=>exact .inl rfl
  |false=>exact .inr ⟨rfl,Aw (d:=39) (fun e=>ax ⟨rfl,e⟩),Aw (d:=34) (fun e=>ay ⟨rfl,e⟩)⟩
 clear ak aC t1 t2 ab ad ae M X ai ac ax ay au aw aq;rcases ways with rfl|⟨rfl,aY,aZ⟩
 all_goals
  go_enter func96,ntmps96;go_wp2_with fail;refine I.out.mono ?_;rintro e F ⟨rfl,rfl⟩;go_wp2_with fail;refine aa.out.mono ?_;rintro e F ⟨rfl,rfl⟩;go_wp2_with fail;exact bodyPost_ret (results_tmp (t:=6) rfl _ _ _) rfl ⟨by simp[Rs.out],AB _ _,fun n aj=>an.out⟩
theorem PZ:∀lv,Kn lv
 |0=>Qr
 |lv+1=>Qi lv (PZ lv)
end Go.Proofs.YtdhfhphbkfgamaaGreat.Lx
