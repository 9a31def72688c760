/- A part. -/
import Derived.Test.YtdhfhphbkfgamaaGreatXm
set_option maxRecDepth 100000
set_option linter.all false
set_option maxHeartbeats 0
namespace Go.Proofs.YtdhfhphbkfgamaaGreat.Lx
open Go.RowKit Proofs.Tryz
theorem Lz(lv:Nat)(q:Bool):Ad lv q []=.ok 0:=by
 have h:¬Dr q []=true:=by
  rw[By];rintro(h|h|h|h|⟨_,h|h⟩)<;>cases h
 cases lv with
 |zero=>unfold Ad;rw[AP h]
 |succ lv=>unfold Ad;rw[AP h]
theorem D4{t:List UInt8}{c:UInt8}(h:0<t.length)(z:t[0]=c)(d:UInt8):(t.take 1=[d])↔c=d:=by
 have:=RT (i:=0) h z d;rwa [List.drop_zero]at this
theorem DP{t:List UInt8}{c a b:UInt8}(h:0<t.length)(z:t[0]=c)(F:t.take 2=[a,b]):c=a:=by
 have:=Oe (i:=0) (a:=a) (b:=b) h z;rw[List.drop_zero]at this;exact this F
theorem Gv{w:World}{b:Nat}{x y F u:Value}{z:Array Value}(h:Y w b 108 #[x,y,F,u])(t8:z.getD 8 undef=.pointer (some ⟨b,0,none⟩)):(results Tryz.f88 z).run prog w=.ok (.agg #[x,y,F,u]) w:=by
 have G:=Y.cell h 0;have I:=Y.cell h 1;have J:=Y.cell h 2;have K:=Y.cell h 3;have L:z[8]?.getD undef=.pointer (some ⟨b,0,none⟩):=(by simpa using t8);simp[results,Tryz.results88,go_sem,L,G,I,J,K]
theorem Sc(c:UInt8):DB [39] c=(c==39):=by
 unfold DB;by_cases h:c=39
 ·subst h;decide
 ·have z:((39:UInt8)==c)=false:=(by rw[A4];exact fun e=>h e.symm);have F:(c==39)=false:=(by rw[A4];exact h);simp[Lib.indexByte,z,F]
theorem Tz(c:UInt8)(h:c≠34):DB [39] c=I3 false false c:=by
 have:(c==34)=false:=(by rw[A4];exact h);rw[Sc];simp[I3,this]
theorem Ua(c:UInt8):DB [39] c=I3 false true c:=by rw[Sc];simp[I3]
theorem XN(c:UInt8):DB [] c=false:=by unfold DB;simp[Lib.indexByte]
theorem VJ(c:UInt8):DB [] c=I3 true true c:=by rw[XN];simp[I3]
theorem Vf(t:List UInt8)(q:Bool)(deep F:Nat)(w:World)(X:0+deep=25)(hs:t.length<=1000000)(aa:F+t.length<=2000000)(h:0<t.length)(G:t[0]=92):
  Calls prog 88 #[sv t,.bool q,.int .i64 deep,.int .i64 F] w fun e w'=>e=.returned (BO F (Ad 0 q t))/\w.grownBy w' none:=by
 have ab:=sz t;have ac:=Y.new w 108 #[.int .i64 0,.bool false,.bool false,.int .i64 0];have ad:w.grownBy (w.alloc (.cells #[.int .i64 0,.bool false,.bool false,.int .i64 0] 108)) none:=AF (AB w none) _;have O:=BE t 0 h;have ae:(0:Int)<(t.length:Int):=(by omega);have af:t.isEmpty=false:=(by cases t with|nil=>exact Aj h (Nat.lt_irrefl _)|cons=>rfl);obtain⟨c,z⟩:=U (t[0]);rw[z]at O;have t1:=fun e=>D4 h z e
 have t2:=fun a b (W:t.take 2=[a,b])=>DP h z W
 have I:=By q t;have J:=Z (fun w'=>Ab t [36,40] w' (by decide) (by omega));have K:=Z (fun w'=>Ab t [36,123] w' (by decide) (by omega));have L:=Z (fun w'=>Ab t [36,40,40] w' (by decide) (by omega));unfold sv at J K L;simp only[BR,CU,Dc,Nat.reduceAdd]at J K L;obtain rfl:c=92:=z.symm.trans G;clear G;have M:Dr q t=true:=I.2 (.inl ((t1 92).2 rfl));have N:Ad 0 q t=.deep 0:=(by unfold Ad;rw[Ai M]);rw[N];have ag:decide ((24:Int)<(deep:Int))=true:=Au (by omega);have ah:=h;clear N M t1 t2 I z;unfold sv;go_enter func88,ntmps88;go_wp2_with fail;exact bodyPost_ret (Gv (Y.new w 108 _) rfl) rfl ⟨by simp[BO,CP],AF (AB w none) _⟩
theorem VW(t:List UInt8)(q:Bool)(deep F:Nat)(w:World)(X:0+deep=25)(hs:t.length<=1000000)(aa:F+t.length<=2000000)(h:0<t.length)(G:t[0]=96):
  Calls prog 88 #[sv t,.bool q,.int .i64 deep,.int .i64 F] w fun e w'=>e=.returned (BO F (Ad 0 q t))/\w.grownBy w' none:=by
 have ab:=sz t;have ac:=Y.new w 108 #[.int .i64 0,.bool false,.bool false,.int .i64 0];have ad:w.grownBy (w.alloc (.cells #[.int .i64 0,.bool false,.bool false,.int .i64 0] 108)) none:=AF (AB w none) _;have O:=BE t 0 h;have ae:(0:Int)<(t.length:Int):=(by omega);have af:t.isEmpty=false:=(by cases t with|nil=>exact Aj h (Nat.lt_irrefl _)|cons=>rfl);obtain⟨c,z⟩:=U (t[0]);rw[z]at O;have t1:=fun e=>D4 h z e
 have t2:=fun a b (W:t.take 2=[a,b])=>DP h z W
 have I:=By q t;have J:=Z (fun w'=>Ab t [36,40] w' (by decide) (by omega));have K:=Z (fun w'=>Ab t [36,123] w' (by decide) (by omega));have L:=Z (fun w'=>Ab t [36,40,40] w' (by decide) (by omega));unfold sv at J K L;simp only[BR,CU,Dc,Nat.reduceAdd]at J K L;obtain rfl:c=96:=z.symm.trans G;clear G;have M:Dr q t=true:=I.2 (.inr (.inl ((t1 96).2 rfl)));have N:Ad 0 q t=.deep 0:=(by unfold Ad;rw[Ai M]);rw[N];have ag:decide ((24:Int)<(deep:Int))=true:=Au (by omega);have ah:=h;clear N M t1 t2 I z;unfold sv;go_enter func88,ntmps88;go_wp2_with fail;exact bodyPost_ret (Gv (Y.new w 108 _) rfl) rfl ⟨by simp[BO,CP],AF (AB w none) _⟩
theorem VZ(t:List UInt8)(deep F:Nat)(w:World)(X:0+deep=25)(hs:t.length<=1000000)(aa:F+t.length<=2000000)(h:0<t.length)(G:t[0]=39):
  Calls prog 88 #[sv t,.bool false,.int .i64 deep,.int .i64 F] w fun e w'=>e=.returned (BO F (Ad 0 false t))/\w.grownBy w' none:=by
 have ab:=sz t;have ac:=Y.new w 108 #[.int .i64 0,.bool false,.bool false,.int .i64 0];have ad:w.grownBy (w.alloc (.cells #[.int .i64 0,.bool false,.bool false,.int .i64 0] 108)) none:=AF (AB w none) _;have O:=BE t 0 h;have ae:(0:Int)<(t.length:Int):=(by omega);have af:t.isEmpty=false:=(by cases t with|nil=>exact Aj h (Nat.lt_irrefl _)|cons=>rfl);obtain⟨c,z⟩:=U (t[0]);rw[z]at O;have t1:=fun e=>D4 h z e
 have t2:=fun a b (W:t.take 2=[a,b])=>DP h z W
 have I:=By false t;have J:=Z (fun w'=>Ab t [36,40] w' (by decide) (by omega));have K:=Z (fun w'=>Ab t [36,123] w' (by decide) (by omega));have L:=Z (fun w'=>Ab t [36,40,40] w' (by decide) (by omega));unfold sv at J K L;simp only[BR,CU,Dc,Nat.reduceAdd]at J K L;obtain rfl:c=39:=z.symm.trans G;clear G;have M:Dr false t=true:=I.2 (.inr (.inr (.inr (.inr ⟨rfl,.inl ((t1 39).2 rfl)⟩))));have N:Ad 0 false t=.deep 0:=(by unfold Ad;rw[Ai M]);rw[N];have ag:decide ((24:Int)<(deep:Int))=true:=Au (by omega);have ah:=h;clear N M t1 t2 I z;unfold sv;go_enter func88,ntmps88;go_wp2_with fail;exact bodyPost_ret (Gv (Y.new w 108 _) rfl) rfl ⟨by simp[BO,CP],AF (AB w none) _⟩
theorem Vw(t:List UInt8)(deep F:Nat)(w:World)(X:0+deep=25)(hs:t.length<=1000000)(aa:F+t.length<=2000000)(h:0<t.length)(G:t[0]=34):
  Calls prog 88 #[sv t,.bool false,.int .i64 deep,.int .i64 F] w fun e w'=>e=.returned (BO F (Ad 0 false t))/\w.grownBy w' none:=by
 have ab:=sz t;have ac:=Y.new w 108 #[.int .i64 0,.bool false,.bool false,.int .i64 0];have ad:w.grownBy (w.alloc (.cells #[.int .i64 0,.bool false,.bool false,.int .i64 0] 108)) none:=AF (AB w none) _;have O:=BE t 0 h;have ae:(0:Int)<(t.length:Int):=(by omega);have af:t.isEmpty=false:=(by cases t with|nil=>exact Aj h (Nat.lt_irrefl _)|cons=>rfl);obtain⟨c,z⟩:=U (t[0]);rw[z]at O;have t1:=fun e=>D4 h z e
 have t2:=fun a b (W:t.take 2=[a,b])=>DP h z W
 have I:=By false t;have J:=Z (fun w'=>Ab t [36,40] w' (by decide) (by omega));have K:=Z (fun w'=>Ab t [36,123] w' (by decide) (by omega));have L:=Z (fun w'=>Ab t [36,40,40] w' (by decide) (by omega));unfold sv at J K L;simp only[BR,CU,Dc,Nat.reduceAdd]at J K L;obtain rfl:c=34:=z.symm.trans G;clear G;have M:Dr false t=true:=I.2 (.inr (.inr (.inr (.inr ⟨rfl,.inr ((t1 34).2 rfl)⟩))));have N:Ad 0 false t=.deep 0:=(by unfold Ad;rw[Ai M]);rw[N];have ag:decide ((24:Int)<(deep:Int))=true:=Au (by omega);have ah:=h;clear N M t1 t2 I z;unfold sv;go_enter func88,ntmps88;go_wp2_with fail;exact bodyPost_ret (Gv (Y.new w 108 _) rfl) rfl ⟨by simp[BO,CP],AF (AB w none) _⟩
theorem V0(t:List UInt8)(q:Bool)(deep I:Nat)(w:World)(ac:0+deep=25)(hs:t.length<=1000000)(ad:I+t.length<=2000000)(h:0<t.length)(F:t.take 2=[36,40]):
  Calls prog 88 #[sv t,.bool q,.int .i64 deep,.int .i64 I] w fun e w'=>e=.returned (BO I (Ad 0 q t))/\w.grownBy w' none:=by
 have ae:=sz t;have af:=Y.new w 108 #[.int .i64 0,.bool false,.bool false,.int .i64 0];have ag:w.grownBy (w.alloc (.cells #[.int .i64 0,.bool false,.bool false,.int .i64 0] 108)) none:=AF (AB w none) _;have W:=BE t 0 h;have ah:(0:Int)<(t.length:Int):=(by omega);have ai:t.isEmpty=false:=(by cases t with|nil=>exact Aj h (Nat.lt_irrefl _)|cons=>rfl);obtain⟨c,G⟩:=U (t[0]);rw[G]at W;have t1:=fun e=>D4 h G e
 have t2:=fun a b (X:t.take 2=[a,b])=>DP h G X
 have K:=By q t;have J:=Z (fun w'=>Ab t [36,40] w' (by decide) (by omega));have L:=Z (fun w'=>Ab t [36,123] w' (by decide) (by omega));have M:=Z (fun w'=>Ab t [36,40,40] w' (by decide) (by omega));unfold sv at J L M;simp only[BR,CU,Dc,Nat.reduceAdd]at J L M;obtain rfl:c=36:=t2 _ _ F;have N:Dr q t=true:=K.2 (.inr (.inr (.inl F)));have aa:=Z (show∀z,Calls prog 66 #[.string ⟨t.toArray⟩,.string ⟨#[36,40]⟩] z fun e ab=>e=.returned (.bool true)/\ab=z from fun z=>by have:=J.out z;rw[Au F]at this;exact this);have O:Ad 0 q t=.deep 0:=(by unfold Ad;rw[Ai N]);rw[O];have aj:decide ((24:Int)<(deep:Int))=true:=Au (by omega);have ak:=h;clear O N t1 t2 K G F;cases q;all_goals
  unfold sv;go_enter func88,ntmps88;go_wp2_with fail;refine(aa.out _).mono ?_;rintro e z ⟨rfl,rfl⟩;go_wp2_with fail;exact bodyPost_ret (Gv (Y.new w 108 _) rfl) rfl ⟨by simp[BO,CP],AF (AB w none) _⟩
theorem Vq(t:List UInt8)(q:Bool)(deep K:Nat)(w:World)(af:0+deep=25)(hs:t.length<=1000000)(ag:K+t.length<=2000000)(F:0<t.length)(G:t.take 2=[36,123]):
  Calls prog 88 #[sv t,.bool q,.int .i64 deep,.int .i64 K] w fun e w'=>e=.returned (BO K (Ad 0 q t))/\w.grownBy w' none:=by
 have ah:=sz t;have ai:=Y.new w 108 #[.int .i64 0,.bool false,.bool false,.int .i64 0];have aj:w.grownBy (w.alloc (.cells #[.int .i64 0,.bool false,.bool false,.int .i64 0] 108)) none:=AF (AB w none) _;have ac:=BE t 0 F;have ak:(0:Int)<(t.length:Int):=(by omega);have al:t.isEmpty=false:=(by cases t with|nil=>exact Aj F (Nat.lt_irrefl _)|cons=>rfl);obtain⟨c,J⟩:=U (t[0]);rw[J]at ac;have t1:=fun e=>D4 F J e
 have t2:=fun a b (z:t.take 2=[a,b])=>DP F J z
 have W:=By q t;have L:=Z (fun w'=>Ab t [36,40] w' (by decide) (by omega));have M:=Z (fun w'=>Ab t [36,123] w' (by decide) (by omega));have N:=Z (fun w'=>Ab t [36,40,40] w' (by decide) (by omega));unfold sv at L M N;simp only[BR,CU,Dc,Nat.reduceAdd]at L M N;obtain rfl:c=36:=t2 _ _ G;have O:¬t.take 2=[36,40]:=fun z=>by rw[G]at z;exact Aj z (by decide)
 have X:¬t.take 3=[36,40,40]:=fun z=>O (Ip z)
 have aa:Dr q t=true:=W.2 (.inr (.inr (.inr (.inl G))));have ad:=Z (show∀h,Calls prog 66 #[.string ⟨t.toArray⟩,.string ⟨#[36,40]⟩] h fun e I=>e=.returned (.bool false)/\I=h from fun h=>by have:=L.out h;rw[As O]at this;exact this);have ae:=Z (show∀h,Calls prog 66 #[.string ⟨t.toArray⟩,.string ⟨#[36,123]⟩] h fun e I=>e=.returned (.bool true)/\I=h from fun h=>by have:=M.out h;rw[Au G]at this;exact this);have am:=Z (show∀h,Calls prog 66 #[.string ⟨t.toArray⟩,.string ⟨#[36,40,40]⟩] h fun e I=>e=.returned (.bool false)/\I=h from fun h=>by have:=N.out h;rw[As X]at this;exact this);have ab:Ad 0 q t=.deep 0:=(by unfold Ad;rw[Ai aa]);rw[ab];have an:decide ((24:Int)<(deep:Int))=true:=Au (by omega);have ao:=F;clear ab aa t1 t2 W J O G X;cases q;all_goals
  unfold sv;go_enter func88,ntmps88;go_wp2_with fail;refine(ad.out _).mono ?_;rintro e h ⟨rfl,rfl⟩;go_wp2_with fail;refine(ae.out _).mono ?_;rintro e h ⟨rfl,rfl⟩;go_wp2_with fail;exact bodyPost_ret (Gv (Y.new w 108 _) rfl) rfl ⟨by simp[BO,CP],AF (AB w none) _⟩
theorem WN(lv:Nat)(ih:JB lv)(t:List UInt8)(q:Bool)(deep G:Nat)(w:World)(ad:lv+1+deep=25)(hs:t.length<=1000000)(ae:G+t.length<=2000000)(F:0<t.length)(J:t[0]=92):
  Calls prog 88 #[sv t,.bool q,.int .i64 deep,.int .i64 G] w fun e w'=>e=.returned (BO G (Ad (lv+1) q t))/\w.grownBy w' none:=by
 have af:=sz t;have ag:=Y.new w 108 #[.int .i64 0,.bool false,.bool false,.int .i64 0];have ah:w.grownBy (w.alloc (.cells #[.int .i64 0,.bool false,.bool false,.int .i64 0] 108)) none:=AF (AB w none) _;have aa:=BE t 0 F;have ai:(0:Int)<(t.length:Int):=(by omega);have aj:t.isEmpty=false:=(by cases t with|nil=>exact Aj F (Nat.lt_irrefl _)|cons=>rfl);obtain⟨c,h⟩:=U (t[0]);rw[h]at aa;have t1:=fun e=>D4 F h e
 have t2:=fun a b (ab:t.take 2=[a,b])=>DP F h ab
 have K:=By q t;have L:=Z (fun w'=>Ab t [36,40] w' (by decide) (by omega));have M:=Z (fun w'=>Ab t [36,123] w' (by decide) (by omega));have N:=Z (fun w'=>Ab t [36,40,40] w' (by decide) (by omega));unfold sv at L M N;simp only[BR,CU,Dc,Nat.reduceAdd]at L M N;obtain rfl:c=92:=h.symm.trans J;clear J;have O:Dr q t=true:=K.2 (.inl ((t1 92).2 rfl));have ak:decide ((24:Int)<(deep:Int))=false:=As (by omega);obtain⟨R,I⟩:=U (Ad (lv+1) q t);have W:=Z (show Ad (lv+1) q t=if t.length<2 then .more else .ok 2 by unfold Ad;rw[Ai O,Ai ((t1 92).2 rfl)]);rw[I];have z:=I;rw[W.out]at z;clear W I O t1 t2 K h;by_cases X:t.length<2
 ·have ac:decide ((t.length:Int)<2)=true:=Au (by omega);rw[Ai X]at z;subst z;unfold sv;go_enter func88,ntmps88;go_wp2_with fail;exact bodyPost_ret (Gv (Y.new w 108 _) rfl) rfl ⟨by simp[BO,CP],AF (AB w none) _⟩
 ·have ac:decide ((t.length:Int)<2)=false:=As (by omega);rw[AP X]at z;subst z;unfold sv;go_enter func88,ntmps88;go_wp2_with fail;exact bodyPost_ret (Gv (Y.new w 108 _) rfl) rfl ⟨by simp[BO,CP],AF (AB w none) _⟩
theorem VS(lv:Nat)(ih:JB lv)(t:List UInt8)(q:Bool)(deep aa:Nat)(w:World)(au:lv+1+deep=25)(hs:t.length<=1000000)(aw:aa+t.length<=2000000)(K:0<t.length)(ae:t[0]=96):
  Calls prog 88 #[sv t,.bool q,.int .i64 deep,.int .i64 aa] w fun e w'=>e=.returned (BO aa (Ad (lv+1) q t))/\w.grownBy w' none:=by
 have ax:=sz t;have an:=Y.new w 108 #[.int .i64 0,.bool false,.bool false,.int .i64 0];have ao:w.grownBy (w.alloc (.cells #[.int .i64 0,.bool false,.bool false,.int .i64 0] 108)) none:=AF (AB w none) _;have L:=BE t 0 K;have af:(0:Int)<(t.length:Int):=(by omega);have ay:t.isEmpty=false:=(by cases t with|nil=>exact Aj K (Nat.lt_irrefl _)|cons=>rfl);obtain⟨c,F⟩:=U (t[0]);rw[F]at L;have t1:=fun e=>D4 K F e
 have t2:=fun a b (ab:t.take 2=[a,b])=>DP K F ab
 have h:=By q t;have ag:=Z (fun w'=>Ab t [36,40] w' (by decide) (by omega));have ah:=Z (fun w'=>Ab t [36,123] w' (by decide) (by omega));have ai:=Z (fun w'=>Ab t [36,40,40] w' (by decide) (by omega));unfold sv at ag ah ai;simp only[BR,CU,Dc,Nat.reduceAdd]at ag ah ai;obtain rfl:c=96:=F.symm.trans ae;clear ae;have aj:Dr q t=true:=h.2 (.inr (.inl ((t1 96).2 rfl)));have az:decide ((24:Int)<(deep:Int))=false:=As (by omega);obtain⟨R,G⟩:=U (Ad (lv+1) q t);have ap:=Z (show Ad (lv+1) q t=(BV 96 true (t.drop 1)).add 1 by unfold Ad;rw[Ai aj,AP (fun ab=>Aj ((t1 92).1 ab) (by decide)),Ai ((t1 96).2 rfl)]);rw[G];have G:=Z G;clear aj t1 t2 h F;unfold sv;go_enter func88,ntmps88;go_wp2_with fail;go_loopw [12] (fun ac wr=> ∃k:Nat,ac=.int .i64 k/\k<=t.length+1/\Y wr w.heap.size 108 #[.int .i64 0,.bool false,.bool false,.int .i64 0]/\w.grownBy wr none/\(BV 96 true (t.drop k)).add k=R) (fun ac _=>t.length+2-(intOf ac).toNat);case atStart=>exact⟨1,rfl,by omega,an,ao,by rw[<-ap.out,G.out]⟩
 case round=>
  obtain⟨k,rfl,hk,h,ak,al⟩:=hrel;have M:=Z h;have N:=Z ak;have O:=Z al;have d0:=Y.cell h 0;have d1:=Y.cell h 1;have d2:=Y.cell h 2;have d3:=Y.cell h 3;have aA:=Y.frozen h 0;have aB:=Y.frozen h 1;have aC:=Y.frozen h 2;have z3:=Y.frozen h 3;have lb:=Y.lt h;clear h ak al G L af;by_cases am:k<t.length
  ·have aq:decide ((k:Int)<(t.length:Int))=true:=Au (by omega);have L:=BE t k am;have af:(0:Int)<=k/\(k:Int)<(t.length:Int):=(by omega);have z:=CF am;obtain⟨b,W⟩:=U (t[k]);rw[W]at L z;by_cases I:b=92
   ·subst I;have J:=Z (show BV 96 true (t.drop k)=(BV 96 true (t.drop (k+2))).add 2 by rw[z,MF ⟨rfl,rfl⟩,List.drop_drop]);clear z W;go_wp2_with fail;go_roundw;case rel=>exact⟨k+2,by go_num,by omega,M.out,N.out,by rw[<-O.out,J.out,Rs.add_add]⟩
    case measure=>simp[intOf];omega
   have aD:((b.toNat:Int)==92)=false:=Aw (d:=92) I;by_cases X:b=96
   ·subst X;have J:=Z (show BV 96 true (t.drop k)=.ok 1 by rw[z];exact Jp (fun ad=>Aj ad.2 I) rfl);clear z W;go_wp2_with fail;exact bodyPost_ret (Gv (IF M.out _ _ _ _) rfl) rfl ⟨by rw[<-O.out,J.out];simp[BO,CP,Rs.add],M5 N.out (BN _) _ _ _ _⟩
   ·have aE:((b.toNat:Int)==96)=false:=Aw (d:=96) X;have J:=Z (show BV 96 true (t.drop k)=(BV 96 true (t.drop (k+1))).add 1 by rw[z];exact LD (fun ad=>Aj ad.2 I) X);clear z W X I;go_wp2_with fail;go_roundw;case rel=>exact⟨k+1,by go_num,by omega,M.out,N.out,by rw[<-O.out,J.out,Rs.add_add]⟩
    case measure=>simp[intOf];omega
  ·have aq:decide ((k:Int)<(t.length:Int))=false:=As (by omega);have ar:R=.more:=by
    have:=O.out;rw[IG (by omega)]at this;exact this.symm
   subst ar;go_wp2_with fail;exact bodyPost_ret (Gv (IF M.out _ _ _ _) rfl) rfl ⟨by simp[BO,CP],M5 N.out (BN _) _ _ _ _⟩
theorem Wh(lv:Nat)(ih:JB lv)(t:List UInt8)(deep M:Nat)(w:World)(ar:lv+1+deep=25)(hs:t.length<=1000000)(au:M+t.length<=2000000)(J:0<t.length)(ad:t[0]=39):
  Calls prog 88 #[sv t,.bool false,.int .i64 deep,.int .i64 M] w fun e w'=>e=.returned (BO M (Ad (lv+1) false t))/\w.grownBy w' none:=by
 have aw:=sz t;have am:=Y.new w 108 #[.int .i64 0,.bool false,.bool false,.int .i64 0];have an:w.grownBy (w.alloc (.cells #[.int .i64 0,.bool false,.bool false,.int .i64 0] 108)) none:=AF (AB w none) _;have K:=BE t 0 J;have ae:(0:Int)<(t.length:Int):=(by omega);have ax:t.isEmpty=false:=(by cases t with|nil=>exact Aj J (Nat.lt_irrefl _)|cons=>rfl);obtain⟨c,z⟩:=U (t[0]);rw[z]at K;have t1:=fun e=>D4 J z e
 have t2:=fun a b (F:t.take 2=[a,b])=>DP J z F
 have h:=By false t;have af:=Z (fun w'=>Ab t [36,40] w' (by decide) (by omega));have ag:=Z (fun w'=>Ab t [36,123] w' (by decide) (by omega));have ah:=Z (fun w'=>Ab t [36,40,40] w' (by decide) (by omega));unfold sv at af ag ah;simp only[BR,CU,Dc,Nat.reduceAdd]at af ag ah;obtain rfl:c=39:=z.symm.trans ad;clear ad;have ai:Dr false t=true:=h.2 (.inr (.inr (.inr (.inr ⟨rfl,.inl ((t1 39).2 rfl)⟩))));have ay:decide ((24:Int)<(deep:Int))=false:=As (by omega);obtain⟨R,G⟩:=U (Ad (lv+1) false t);have ao:=Z (show Ad (lv+1) false t=(BV 39 false (t.drop 1)).add 1 by unfold Ad;rw[Ai ai,AP (fun F=>Aj ((t1 92).1 F) (by decide)),AP (fun F=>Aj ((t1 96).1 F) (by decide)),Ai ((t1 39).2 rfl)]);rw[G];have G:=Z G;clear ai t1 t2 h z;unfold sv;go_enter func88,ntmps88;go_wp2_with fail;go_loopw [11] (fun N wr=> ∃k:Nat,N=.int .i64 k/\k<=t.length+1/\Y wr w.heap.size 108 #[.int .i64 0,.bool false,.bool false,.int .i64 0]/\w.grownBy wr none/\(BV 39 false (t.drop k)).add k=R) (fun N _=>t.length+2-(intOf N).toNat);case atStart=>exact⟨1,rfl,by omega,am,an,by rw[<-ao.out,G.out]⟩
 case round=>
  obtain⟨k,rfl,hk,h,aj,ak⟩:=hrel;have O:=Z h;have W:=Z aj;have X:=Z ak;have d0:=Y.cell h 0;have d1:=Y.cell h 1;have d2:=Y.cell h 2;have d3:=Y.cell h 3;have az:=Y.frozen h 0;have aA:=Y.frozen h 1;have aB:=Y.frozen h 2;have z3:=Y.frozen h 3;have lb:=Y.lt h;clear h aj ak G K ae;by_cases al:k<t.length
  ·have ap:decide ((k:Int)<(t.length:Int))=true:=Au (by omega);have K:=BE t k al;have ae:(0:Int)<=k/\(k:Int)<(t.length:Int):=(by omega);have I:=CF al;obtain⟨b,aa⟩:=U (t[k]);rw[aa]at K I;by_cases L:b=39
   ·subst L;have ab:=Z (show BV 39 false (t.drop k)=.ok 1 by rw[I];exact Jp (fun ac=>Bool.false_ne_true ac.1) rfl);clear I aa;go_wp2_with fail;exact bodyPost_ret (Gv (IF O.out _ _ _ _) rfl) rfl ⟨by rw[<-X.out,ab.out];simp[BO,CP,Rs.add],M5 W.out (BN _) _ _ _ _⟩
   ·have aC:((b.toNat:Int)==39)=false:=Aw (d:=39) L;have ab:=Z (show BV 39 false (t.drop k)=(BV 39 false (t.drop (k+1))).add 1 by rw[I];exact LD (fun ac=>Bool.false_ne_true ac.1) L);clear I aa L;go_wp2_with fail;go_roundw;case rel=>exact⟨k+1,by go_num,by omega,O.out,W.out,by rw[<-X.out,ab.out,Rs.add_add]⟩
    case measure=>simp[intOf];omega
  ·have ap:decide ((k:Int)<(t.length:Int))=false:=As (by omega);have aq:R=.more:=by
    have:=X.out;rw[IG (by omega)]at this;exact this.symm
   subst aq;go_wp2_with fail;exact bodyPost_ret (Gv (IF O.out _ _ _ _) rfl) rfl ⟨by simp[BO,CP],M5 W.out (BN _) _ _ _ _⟩
theorem Wo(lv:Nat)(ih:JB lv)(t:List UInt8)(deep F:Nat)(w:World)(aj:lv+1+deep=25)(hs:t.length<=1000000)(ac:F+t.length<=2000000)(I:0<t.length)(M:t[0]=34):
  Calls prog 88 #[sv t,.bool false,.int .i64 deep,.int .i64 F] w fun e w'=>e=.returned (BO F (Ad (lv+1) false t))/\w.grownBy w' none:=by
 have ak:=sz t;have ad:=Y.new w 108 #[.int .i64 0,.bool false,.bool false,.int .i64 0];have ae:w.grownBy (w.alloc (.cells #[.int .i64 0,.bool false,.bool false,.int .i64 0] 108)) none:=AF (AB w none) _;have af:=BE t 0 I;have al:(0:Int)<(t.length:Int):=(by omega);have am:t.isEmpty=false:=(by cases t with|nil=>exact Aj I (Nat.lt_irrefl _)|cons=>rfl);obtain⟨c,G⟩:=U (t[0]);rw[G]at af;have t1:=fun e=>D4 I G e
 have t2:=fun a b (z:t.take 2=[a,b])=>DP I G z
 have N:=By false t;have O:=Z (fun w'=>Ab t [36,40] w' (by decide) (by omega));have W:=Z (fun w'=>Ab t [36,123] w' (by decide) (by omega));have X:=Z (fun w'=>Ab t [36,40,40] w' (by decide) (by omega));unfold sv at O W X;simp only[BR,CU,Dc,Nat.reduceAdd]at O W X;obtain rfl:c=34:=G.symm.trans M;clear M;have aa:Dr false t=true:=N.2 (.inr (.inr (.inr (.inr ⟨rfl,.inr ((t1 34).2 rfl)⟩))));have an:decide ((24:Int)<(deep:Int))=false:=As (by omega);obtain⟨R,K⟩:=U (Ad (lv+1) false t);have ab:=Z (show Ad (lv+1) false t=(BL (Ad lv true) 34 [39] 0 (t.drop 1)).add 1 by unfold Ad;rw[Ai aa,AP (fun z=>Aj ((t1 92).1 z) (by decide)),AP (fun z=>Aj ((t1 96).1 z) (by decide)),AP (fun z=>Aj ((t1 39).1 z) (by decide)),Ai ((t1 34).2 rfl)]);have ag:=Z (show∀J,Calls prog 99 #[.string ⟨t.toArray⟩,.int .i64 1,.int .u8 34,.int .u8 0,.bool false,.bool false,.bool true,.int .i64 deep,.int .i64 F] J fun e ah=>e=.returned (BO F R)/\J.grownBy ah none from fun J=>by
  have:=Iv lv ih t 1 34 0 false false true [39] deep F J (by omega) hs ac (by omega) (Tz) (by decide);rw[<-ab.out,K]at this;exact this)
 rw[K];clear K ab aa t1 t2 N G;unfold sv;go_enter func88,ntmps88;go_wp2_with fail;refine(ag.out _).mono ?_;rintro e ao ⟨rfl,L⟩;have h:=Z (Y.grown ad L (by simp));have ai:=Z (AI ae L);have d0:=Y.cell h.out 0;have d1:=Y.cell h.out 1;have d2:=Y.cell h.out 2;have d3:=Y.cell h.out 3;have ap:=Y.frozen h.out 0;have aq:=Y.frozen h.out 1;have ar:=Y.frozen h.out 2;have z3:=Y.frozen h.out 3;have lb:=Y.lt h.out;clear L;unfold BO;cases R;all_goals
  unfold CP;go_wp2_with fail;exact bodyPost_ret (Gv (IF h.out _ _ _ _) rfl) rfl ⟨rfl,M5 ai.out (BN _) _ _ _ _⟩
theorem V8(lv:Nat)(ih:JB lv)(t:List UInt8)(q:Bool)(deep G:Nat)(w:World)(am:lv+1+deep=25)(hs:t.length<=1000000)(af:G+t.length<=2000000)(K:0<t.length)(I:t.take 2=[36,40])(M:¬t.take 3=[36,40,40]):
  Calls prog 88 #[sv t,.bool q,.int .i64 deep,.int .i64 G] w fun e w'=>e=.returned (BO G (Ad (lv+1) q t))/\w.grownBy w' none:=by
 have an:=sz t;have ag:=Y.new w 108 #[.int .i64 0,.bool false,.bool false,.int .i64 0];have ah:w.grownBy (w.alloc (.cells #[.int .i64 0,.bool false,.bool false,.int .i64 0] 108)) none:=AF (AB w none) _;have ai:=BE t 0 K;have ao:(0:Int)<(t.length:Int):=(by omega);have ap:t.isEmpty=false:=(by cases t with|nil=>exact Aj K (Nat.lt_irrefl _)|cons=>rfl);obtain⟨c,L⟩:=U (t[0]);rw[L]at ai;have t1:=fun e=>D4 K L e
 have t2:=fun a b (F:t.take 2=[a,b])=>DP K L F
 have aa:=By q t;have N:=Z (fun w'=>Ab t [36,40] w' (by decide) (by omega));have ab:=Z (fun w'=>Ab t [36,123] w' (by decide) (by omega));have O:=Z (fun w'=>Ab t [36,40,40] w' (by decide) (by omega));unfold sv at N ab O;simp only[BR,CU,Dc,Nat.reduceAdd]at N ab O;obtain rfl:c=36:=t2 _ _ I;have ac:Dr q t=true:=aa.2 (.inr (.inr (.inl I)));have ad:=Z (show∀h,Calls prog 66 #[.string ⟨t.toArray⟩,.string ⟨#[36,40]⟩] h fun e J=>e=.returned (.bool true)/\J=h from fun h=>by have:=N.out h;rw[Au I]at this;exact this);have aj:=Z (show∀h,Calls prog 66 #[.string ⟨t.toArray⟩,.string ⟨#[36,40,40]⟩] h fun e J=>e=.returned (.bool false)/\J=h from fun h=>by have:=O.out h;rw[As M]at this;exact this);have aq:decide ((24:Int)<(deep:Int))=false:=As (by omega);obtain⟨R,W⟩:=U (Ad (lv+1) q t);have ar:2<=t.length:=(by have:=take_len I;simpa using this);have ae:=Z (show Ad (lv+1) q t=(BL (Ad lv false) 41 [] 0 (t.drop 2)).add 2 by unfold Ad;rw[Ai ac,AP (fun F=>Aj ((t1 92).1 F) (by decide)),AP (fun F=>Aj ((t1 96).1 F) (by decide)),AP (fun F=>Aj ((t1 39).1 F) (by decide)),AP (fun F=>Aj ((t1 34).1 F) (by decide)),AP M,Ai I]);have ak:=Z (show∀h,Calls prog 99 #[.string ⟨t.toArray⟩,.int .i64 2,.int .u8 41,.int .u8 40,.bool true,.bool true,.bool false,.int .i64 deep,.int .i64 G] h fun e J=>e=.returned (BO G R)/\h.grownBy J none from fun h=>by
  have:=Iv lv ih t 2 41 40 true true false [] deep G h (by omega) hs af (by omega) (fun c _=>VJ c) (by decide);rw[<-ae.out,W]at this;exact this)
 rw[W];clear W ae ac t1 t2 aa L I M;cases q;all_goals
  unfold sv;go_enter func88,ntmps88;go_wp2_with fail;refine(ad.out _).mono ?_;rintro e h ⟨rfl,rfl⟩;go_wp2_with fail;refine(aj.out _).mono ?_;rintro e h ⟨rfl,rfl⟩;go_wp2_with fail;refine(ad.out _).mono ?_;rintro e h ⟨rfl,rfl⟩;go_wp2_with fail;refine(ak.out _).mono ?_;rintro e au ⟨rfl,X⟩;have z:=Z (Y.grown ag X (by simp));have al:=Z (AI ah X);have d0:=Y.cell z.out 0;have d1:=Y.cell z.out 1;have d2:=Y.cell z.out 2;have d3:=Y.cell z.out 3;have aw:=Y.frozen z.out 0;have ax:=Y.frozen z.out 1;have ay:=Y.frozen z.out 2;have z3:=Y.frozen z.out 3;have lb:=Y.lt z.out;clear X;unfold BO;cases R;all_goals
   unfold CP;go_wp2_with fail;exact bodyPost_ret (Gv (IF z.out _ _ _ _) rfl) rfl ⟨rfl,M5 al.out (BN _) _ _ _ _⟩
theorem TN(lv:Nat)(ih:JB lv)(t:List UInt8)(deep I:Nat)(w:World)(ao:lv+1+deep=25)(hs:t.length<=1000000)(ag:I+t.length<=2000000)(K:0<t.length)(J:t.take 2=[36,123]):
  Calls prog 88 #[sv t,.bool true,.int .i64 deep,.int .i64 I] w fun e w'=>e=.returned (BO I (Ad (lv+1) true t))/\w.grownBy w' none:=by
 have ap:=sz t;have ah:=Y.new w 108 #[.int .i64 0,.bool false,.bool false,.int .i64 0];have ai:w.grownBy (w.alloc (.cells #[.int .i64 0,.bool false,.bool false,.int .i64 0] 108)) none:=AF (AB w none) _;have aj:=BE t 0 K;have aq:(0:Int)<(t.length:Int):=(by omega);have ar:t.isEmpty=false:=(by cases t with|nil=>exact Aj K (Nat.lt_irrefl _)|cons=>rfl);obtain⟨c,L⟩:=U (t[0]);rw[L]at aj;have t1:=fun e=>D4 K L e
 have t2:=fun a b (z:t.take 2=[a,b])=>DP K L z
 have ac:=By true t;have N:=Z (fun w'=>Ab t [36,40] w' (by decide) (by omega));have O:=Z (fun w'=>Ab t [36,123] w' (by decide) (by omega));have W:=Z (fun w'=>Ab t [36,40,40] w' (by decide) (by omega));unfold sv at N O W;simp only[BR,CU,Dc,Nat.reduceAdd]at N O W;obtain rfl:c=36:=t2 _ _ J;have M:¬t.take 2=[36,40]:=fun z=>by rw[J]at z;exact Aj z (by decide)
 have X:¬t.take 3=[36,40,40]:=fun z=>M (Ip z)
 have ad:Dr true t=true:=ac.2 (.inr (.inr (.inr (.inl J))));have ae:=Z (show∀h,Calls prog 66 #[.string ⟨t.toArray⟩,.string ⟨#[36,40]⟩] h fun e G=>e=.returned (.bool false)/\G=h from fun h=>by have:=N.out h;rw[As M]at this;exact this);have ak:=Z (show∀h,Calls prog 66 #[.string ⟨t.toArray⟩,.string ⟨#[36,123]⟩] h fun e G=>e=.returned (.bool true)/\G=h from fun h=>by have:=O.out h;rw[Au J]at this;exact this);have al:=Z (show∀h,Calls prog 66 #[.string ⟨t.toArray⟩,.string ⟨#[36,40,40]⟩] h fun e G=>e=.returned (.bool false)/\G=h from fun h=>by have:=W.out h;rw[As X]at this;exact this);have au:decide ((24:Int)<(deep:Int))=false:=As (by omega);obtain⟨R,aa⟩:=U (Ad (lv+1) true t);have aw:2<=t.length:=(by have:=take_len J;simpa using this);have af:=Z (show Ad (lv+1) true t=(BL (Ad lv true) 125 [39] 0 (t.drop 2)).add 2 by unfold Ad;rw[Ai ad,AP (fun z=>Aj ((t1 92).1 z) (by decide)),AP (fun z=>Aj ((t1 96).1 z) (by decide)),AP (fun z=>Aj ((t1 39).1 z) (by decide)),AP (fun z=>Aj ((t1 34).1 z) (by decide)),AP X,AP M,Ai rfl]);have am:=Z (show∀h,Calls prog 99 #[.string ⟨t.toArray⟩,.int .i64 2,.int .u8 125,.int .u8 0,.bool false,.bool true,.bool true,.int .i64 deep,.int .i64 I] h fun e G=>e=.returned (BO I R)/\h.grownBy G none from fun h=>by
  have:=Iv lv ih t 2 125 0 false true true [39] deep I h (by omega) hs ag (by omega) (fun c _=>Ua c) (by decide);rw[<-af.out,aa]at this;exact this)
 rw[aa];clear aa af ad t1 t2 ac L M J X;unfold sv;go_enter func88,ntmps88;go_wp2_with fail;refine(ae.out _).mono ?_;rintro e h ⟨rfl,rfl⟩;go_wp2_with fail;refine(ak.out _).mono ?_;rintro e h ⟨rfl,rfl⟩;go_wp2_with fail;refine(al.out _).mono ?_;rintro e h ⟨rfl,rfl⟩;go_wp2_with fail;refine(ae.out _).mono ?_;rintro e h ⟨rfl,rfl⟩;go_wp2_with fail;refine(am.out _).mono ?_;rintro e ax ⟨rfl,ab⟩;have F:=Z (Y.grown ah ab (by simp));have an:=Z (AI ai ab);have d0:=Y.cell F.out 0;have d1:=Y.cell F.out 1;have d2:=Y.cell F.out 2;have d3:=Y.cell F.out 3;have ay:=Y.frozen F.out 0;have az:=Y.frozen F.out 1;have aA:=Y.frozen F.out 2;have z3:=Y.frozen F.out 3;have lb:=Y.lt F.out;clear ab;unfold BO;cases R;all_goals
  unfold CP;go_wp2_with fail;exact bodyPost_ret (Gv (IF F.out _ _ _ _) rfl) rfl ⟨rfl,M5 an.out (BN _) _ _ _ _⟩
theorem UG(lv:Nat)(ih:JB lv)(t:List UInt8)(deep I:Nat)(w:World)(ao:lv+1+deep=25)(hs:t.length<=1000000)(ag:I+t.length<=2000000)(K:0<t.length)(J:t.take 2=[36,123]):
  Calls prog 88 #[sv t,.bool false,.int .i64 deep,.int .i64 I] w fun e w'=>e=.returned (BO I (Ad (lv+1) false t))/\w.grownBy w' none:=by
 have ap:=sz t;have ah:=Y.new w 108 #[.int .i64 0,.bool false,.bool false,.int .i64 0];have ai:w.grownBy (w.alloc (.cells #[.int .i64 0,.bool false,.bool false,.int .i64 0] 108)) none:=AF (AB w none) _;have aj:=BE t 0 K;have aq:(0:Int)<(t.length:Int):=(by omega);have ar:t.isEmpty=false:=(by cases t with|nil=>exact Aj K (Nat.lt_irrefl _)|cons=>rfl);obtain⟨c,L⟩:=U (t[0]);rw[L]at aj;have t1:=fun e=>D4 K L e
 have t2:=fun a b (z:t.take 2=[a,b])=>DP K L z
 have ac:=By false t;have N:=Z (fun w'=>Ab t [36,40] w' (by decide) (by omega));have O:=Z (fun w'=>Ab t [36,123] w' (by decide) (by omega));have W:=Z (fun w'=>Ab t [36,40,40] w' (by decide) (by omega));unfold sv at N O W;simp only[BR,CU,Dc,Nat.reduceAdd]at N O W;obtain rfl:c=36:=t2 _ _ J;have M:¬t.take 2=[36,40]:=fun z=>by rw[J]at z;exact Aj z (by decide)
 have X:¬t.take 3=[36,40,40]:=fun z=>M (Ip z)
 have ad:Dr false t=true:=ac.2 (.inr (.inr (.inr (.inl J))));have ae:=Z (show∀h,Calls prog 66 #[.string ⟨t.toArray⟩,.string ⟨#[36,40]⟩] h fun e G=>e=.returned (.bool false)/\G=h from fun h=>by have:=N.out h;rw[As M]at this;exact this);have ak:=Z (show∀h,Calls prog 66 #[.string ⟨t.toArray⟩,.string ⟨#[36,123]⟩] h fun e G=>e=.returned (.bool true)/\G=h from fun h=>by have:=O.out h;rw[Au J]at this;exact this);have al:=Z (show∀h,Calls prog 66 #[.string ⟨t.toArray⟩,.string ⟨#[36,40,40]⟩] h fun e G=>e=.returned (.bool false)/\G=h from fun h=>by have:=W.out h;rw[As X]at this;exact this);have au:decide ((24:Int)<(deep:Int))=false:=As (by omega);obtain⟨R,aa⟩:=U (Ad (lv+1) false t);have aw:2<=t.length:=(by have:=take_len J;simpa using this);have af:=Z (show Ad (lv+1) false t=(BL (Ad lv false) 125 [] 0 (t.drop 2)).add 2 by unfold Ad;rw[Ai ad,AP (fun z=>Aj ((t1 92).1 z) (by decide)),AP (fun z=>Aj ((t1 96).1 z) (by decide)),AP (fun z=>Aj ((t1 39).1 z) (by decide)),AP (fun z=>Aj ((t1 34).1 z) (by decide)),AP X,AP M,AP Bool.false_ne_true]);have am:=Z (show∀h,Calls prog 99 #[.string ⟨t.toArray⟩,.int .i64 2,.int .u8 125,.int .u8 0,.bool true,.bool true,.bool false,.int .i64 deep,.int .i64 I] h fun e G=>e=.returned (BO I R)/\h.grownBy G none from fun h=>by
  have:=Iv lv ih t 2 125 0 true true false [] deep I h (by omega) hs ag (by omega) (fun c _=>VJ c) (by decide);rw[<-af.out,aa]at this;exact this)
 rw[aa];clear aa af ad t1 t2 ac L M J X;unfold sv;go_enter func88,ntmps88;go_wp2_with fail;refine(ae.out _).mono ?_;rintro e h ⟨rfl,rfl⟩;go_wp2_with fail;refine(ak.out _).mono ?_;rintro e h ⟨rfl,rfl⟩;go_wp2_with fail;refine(al.out _).mono ?_;rintro e h ⟨rfl,rfl⟩;go_wp2_with fail;refine(ae.out _).mono ?_;rintro e h ⟨rfl,rfl⟩;go_wp2_with fail;refine(am.out _).mono ?_;rintro e ax ⟨rfl,ab⟩;have F:=Z (Y.grown ah ab (by simp));have an:=Z (AI ai ab);have d0:=Y.cell F.out 0;have d1:=Y.cell F.out 1;have d2:=Y.cell F.out 2;have d3:=Y.cell F.out 3;have ay:=Y.frozen F.out 0;have az:=Y.frozen F.out 1;have aA:=Y.frozen F.out 2;have z3:=Y.frozen F.out 3;have lb:=Y.lt F.out;clear ab;unfold BO;cases R;all_goals
  unfold CP;go_wp2_with fail;exact bodyPost_ret (Gv (IF F.out _ _ _ _) rfl) rfl ⟨rfl,M5 an.out (BN _) _ _ _ _⟩
theorem WO(lv:Nat)(ih:JB lv)(t:List UInt8)(q:Bool)(deep aj:Nat)(w:World)(aJ:lv+1+deep=25)(hs:t.length<=1000000)(aK:aj+t.length<=2000000)(ad:0<t.length)(K:t.take 3=[36,40,40]):
  Calls prog 88 #[sv t,.bool q,.int .i64 deep,.int .i64 aj] w fun e w'=>e=.returned (BO aj (Ad (lv+1) q t))/\w.grownBy w' none:=by
 have aL:=sz t;have aA:=Y.new w 108 #[.int .i64 0,.bool false,.bool false,.int .i64 0];have aB:w.grownBy (w.alloc (.cells #[.int .i64 0,.bool false,.bool false,.int .i64 0] 108)) none:=AF (AB w none) _;have ae:=BE t 0 ad;have ar:(0:Int)<(t.length:Int):=(by omega);have aM:t.isEmpty=false:=(by cases t with|nil=>exact Aj ad (Nat.lt_irrefl _)|cons=>rfl);obtain⟨c,af⟩:=U (t[0]);rw[af]at ae;have t1:=fun e=>D4 ad af e
 have t2:=fun a b (G:t.take 2=[a,b])=>DP ad af G
 have z:=By q t;have ak:=Z (fun w'=>Ab t [36,40] w' (by decide) (by omega));have au:=Z (fun w'=>Ab t [36,123] w' (by decide) (by omega));have al:=Z (fun w'=>Ab t [36,40,40] w' (by decide) (by omega));unfold sv at ak au al;simp only[BR,CU,Dc,Nat.reduceAdd]at ak au al;have am:=Ip K;obtain rfl:c=36:=t2 _ _ am;have aw:Dr q t=true:=z.2 (.inr (.inr (.inl (Ip K))));have aC:=Z (show∀h,Calls prog 66 #[.string ⟨t.toArray⟩,.string ⟨#[36,40]⟩] h fun e ab=>e=.returned (.bool true)/\ab=h from fun h=>by have:=ak.out h;rw[Au am]at this;exact this);have aD:=Z (show∀h,Calls prog 66 #[.string ⟨t.toArray⟩,.string ⟨#[36,40,40]⟩] h fun e ab=>e=.returned (.bool true)/\ab=h from fun h=>by have:=al.out h;rw[Au K]at this;exact this);have aN:decide ((24:Int)<(deep:Int))=false:=As (by omega);obtain⟨R,ac⟩:=U (Ad (lv+1) q t);have aE:3<=t.length:=(by have:=take_len K;simpa using this);have aF:=Z (show Ad (lv+1) q t=(Bq 0 (t.drop 3)).add 3 by unfold Ad;rw[Ai aw,AP (fun G=>Aj ((t1 92).1 G) (by decide)),AP (fun G=>Aj ((t1 96).1 G) (by decide)),AP (fun G=>Aj ((t1 39).1 G) (by decide)),AP (fun G=>Aj ((t1 34).1 G) (by decide)),Ai K]);rw[ac];have ac:=Z ac;clear aw t1 t2 z af am K;cases q;all_goals
  unfold sv;go_enter func88,ntmps88;go_wp2_with fail;refine(aC.out _).mono ?_;rintro e h ⟨rfl,rfl⟩;go_wp2_with fail;refine(aD.out _).mono ?_;rintro e h ⟨rfl,rfl⟩;go_wp2_with fail;go_loopw [13,14] (fun aG an wr=> ∃o k:Nat,aG=.int .i64 o/\an=.int .i64 k/\k<=t.length/\o<=k/\Y wr w.heap.size 108 #[.int .i64 0,.bool false,.bool false,.int .i64 0]/\w.grownBy wr none/\(Bq o (t.drop k)).add k=R) (fun _ an _=>t.length+1-(intOf an).toNat);case atStart=>exact⟨0,3,rfl,rfl,aE,by omega,aA,aB,by rw[<-aF.out,ac.out]⟩
  case round=>
   obtain⟨o,k,rfl,rfl,hk,aO,z,ax,ay⟩:=hrel;have L:=Z z;have M:=Z ax;have N:=Z ay;have d0:=Y.cell z 0;have d1:=Y.cell z 1;have d2:=Y.cell z 2;have d3:=Y.cell z 3;have aP:=Y.frozen z 0;have aQ:=Y.frozen z 1;have aR:=Y.frozen z 2;have z3:=Y.frozen z 3;have lb:=Y.lt z;clear z ax ay ac ae ar;by_cases az:k<t.length
   ·have aH:decide ((k:Int)<(t.length:Int))=true:=Au (by omega);have ae:=BE t k az;have ar:(0:Int)<=k/\(k:Int)<(t.length:Int):=(by omega);have aS:(0:Int)<=k/\(k:Int)<=(t.length:Int):=(by omega);have aT:=Gf t k t.length rfl;have F:=CF az;obtain⟨b,O⟩:=U (t[k]);rw[O]at ae F;by_cases ag:b=40
    ·subst ag;have I:=Z (show Bq o (t.drop k)=(Bq (o+1) (t.drop (k+1))).add 1 by rw[F];cases o<;>rfl);clear F O;go_wp2_with fail;go_roundw;case rel=>exact⟨o+1,k+1,by go_num,by go_num,by omega,by omega,L.out,M.out,by rw[<-N.out,I.out,Rs.add_add]⟩
     case measure=>simp[intOf];omega
    have aU:((b.toNat:Int)==40)=false:=Aw (d:=40) ag;by_cases ah:b=41
    ·subst ah;by_cases aV:0<o
     ·obtain⟨J,rfl⟩:∃J,o=J+1:=⟨o-1,by omega⟩;have I:=Z (show Bq (J+1) (t.drop k)=(Bq J (t.drop (k+1))).add 1 by rw[F];rfl);have aW:decide ((0:Int)<((J+1:Nat):Int))=true:=Au (by omega);have aX:decide ((0:Int)<(J:Int)+1)=true:=Au (by omega);clear F O;go_wp2_with fail;go_roundw;case rel=>exact⟨J,k+1,by go_num,by go_num,by omega,by omega,L.out,M.out,by rw[<-N.out,I.out,Rs.add_add]⟩
      case measure=>simp[intOf];omega
     ·obtain rfl:o=0:=by omega
      have ao:(t.drop k).take 2=41::(t.drop (k+1)).take 1:=(by rw[F];rfl);have ap:decide ((t.drop k).take 2=[41,41])=decide ((t.drop (k+1)).take 1=[41]):=(by rw[ao];simp);have ai:=fun h=>Ab (t.drop k) [41,41] h (by decide) (by rw[D8];omega)
      unfold sv at ai;have W:∀h,Calls prog 66 #[.string ⟨(t.drop k).toArray⟩,.string ⟨#[41,41]⟩] h fun e ab=>e=.returned (.bool (decide ((t.drop (k+1)).take 1=[41])))/\ab=h:=fun h=>by rw[<-ap];exact ai h
      have X:Bq 0 (t.drop k)=if(t.drop (k+1)).take 1=[41]then .ok 2 else(Bq 0 (t.drop (k+1))).add 1:=(by rw[F];rfl);by_cases aa:(t.drop (k+1)).take 1=[41]
      ·rw[Ai aa]at X;rw[Au aa]at W;have I:=Z X;have aq:=Z W;clear F O ao ap aa ai W X;go_wp2_with fail;refine(aq.out _).mono ?_;rintro e h ⟨rfl,rfl⟩;go_wp2_with fail;exact bodyPost_ret (Gv (IF L.out _ _ _ _) rfl) rfl ⟨by rw[<-N.out,I.out];simp[BO,CP,Rs.add],M5 M.out (BN _) _ _ _ _⟩
      ·rw[AP aa]at X;rw[As aa]at W;have I:=Z X;have aq:=Z W;clear F O ao ap aa ai W X;go_wp2_with fail;refine(aq.out _).mono ?_;rintro e h ⟨rfl,rfl⟩;go_wp2_with fail;go_roundw;case rel=>exact⟨0,k+1,rfl,by go_num,by omega,by omega,L.out,M.out,by rw[<-N.out,I.out,Rs.add_add]⟩
       case measure=>simp[intOf];omega
    ·have aY:((b.toNat:Int)==41)=false:=Aw (d:=41) ah;have I:=Z (show Bq o (t.drop k)=(Bq o (t.drop (k+1))).add 1 by rw[F];show(if b=40 then _ else if b≠41 then _ else _)=_;rw[AP ag,Ai ah]);clear F O ag ah;go_wp2_with fail;go_roundw;case rel=>exact⟨o,k+1,rfl,by go_num,by omega,by omega,L.out,M.out,by rw[<-N.out,I.out,Rs.add_add]⟩
     case measure=>simp[intOf];omega
   ·have aH:decide ((k:Int)<(t.length:Int))=false:=As (by omega);have aI:R=.more:=by
     have:=N.out;rw[IG (by omega)]at this;cases o<;>exact this.symm
    subst aI;go_wp2_with fail;exact bodyPost_ret (Gv (IF L.out _ _ _ _) rfl) rfl ⟨by simp[BO,CP],M5 M.out (BN _) _ _ _ _⟩
theorem Up(lv:Nat)(t:List UInt8)(q:Bool)(deep M:Nat)(w:World)(hs:t.length<=1000000)(z:0<t.length)(F:¬Dr q t=true):
  Calls prog 88 #[sv t,.bool q,.int .i64 deep,.int .i64 M] w fun e w'=>e=.returned (BO M (Ad lv q t))/\w.grownBy w' none:=by
 have ah:=sz t;have ai:=Y.new w 108 #[.int .i64 0,.bool false,.bool false,.int .i64 0];have aj:w.grownBy (w.alloc (.cells #[.int .i64 0,.bool false,.bool false,.int .i64 0] 108)) none:=AF (AB w none) _;have ad:=BE t 0 z;have ak:(0:Int)<(t.length:Int):=(by omega);have al:t.isEmpty=false:=(by cases t with|nil=>exact Aj z (Nat.lt_irrefl _)|cons=>rfl);obtain⟨c,G⟩:=U (t[0]);rw[G]at ad;have t1:=fun e=>D4 z G e
 have t2:=fun a b (ae:t.take 2=[a,b])=>DP z G ae
 have N:=By q t;have I:=Z (fun w'=>Ab t [36,40] w' (by decide) (by omega));have J:=Z (fun w'=>Ab t [36,123] w' (by decide) (by omega));have O:=Z (fun w'=>Ab t [36,40,40] w' (by decide) (by omega));unfold sv at I J O;simp only[BR,CU,Dc,Nat.reduceAdd]at I J O;have W:Ad lv q t=.ok 0:=(by cases lv<;>(unfold Ad;rw[AP F]));rw[W];rw[N]at F;simp only[not_or,not_and]at F;obtain⟨X,aa,ab,ac,K⟩:=F;have am:((c.toNat:Int)==92)=false:=Aw (d:=92) (fun e=>X ((t1 92).2 e));have an:((c.toNat:Int)==96)=false:=Aw (d:=96) (fun e=>aa ((t1 96).2 e));have ways:q=true\/(q=false/\((c.toNat:Int)==39)=false/\((c.toNat:Int)==34)=false):=by
  cases q with
  |true=>exact .inl rfl
  |false=>exact .inr ⟨rfl,Aw (d:=39) (fun e=>(K rfl).1 ((t1 39).2 e)),Aw (d:=34) (fun e=>(K rfl).2 ((t1 34).2 e))⟩
 have af:=Z (show∀h,Calls prog 66 #[.string ⟨t.toArray⟩,.string ⟨#[36,40]⟩] h fun e L=>e=.returned (.bool false)/\L=h from fun h=>by have:=I.out h;rw[As ab]at this;exact this);have ag:=Z (show∀h,Calls prog 66 #[.string ⟨t.toArray⟩,.string ⟨#[36,123]⟩] h fun e L=>e=.returned (.bool false)/\L=h from fun h=>by have:=J.out h;rw[As ac]at this;exact this);clear W t1 t2 N G X aa ab ac K;rcases ways with rfl|⟨rfl,ao,ap⟩
 all_goals
  unfold sv;go_enter func88,ntmps88;go_wp2_with fail;refine(af.out _).mono ?_;rintro e h ⟨rfl,rfl⟩;go_wp2_with fail;refine(ag.out _).mono ?_;rintro e h ⟨rfl,rfl⟩;go_wp2_with fail;exact bodyPost_ret (Gv (Y.new w 108 _) rfl) rfl ⟨by simp[BO,CP],AF (AB w none) _⟩
theorem SZ(q:Bool)(deep h:Nat)(w:World):Calls prog 88 #[sv [],.bool q,.int .i64 deep,.int .i64 h] w fun e w'=>e=.returned (BO h (.ok 0))/\w.grownBy w' none:=by
 have z:=Y.new w 108 #[.int .i64 0,.bool false,.bool false,.int .i64 0];have F:w.grownBy (w.alloc (.cells #[.int .i64 0,.bool false,.bool false,.int .i64 0] 108)) none:=AF (AB w none) _;unfold sv;go_enter func88,ntmps88;go_wp2_with fail;exact bodyPost_ret (Gv (Y.new w 108 _) rfl) rfl ⟨by simp[BO,CP],AF (AB w none) _⟩
theorem WY:∀lv,JB lv:=by
 intro lv;induction lv with
 |zero=>
  intro t q deep z w G hs I;by_cases F:0<t.length
  ·by_cases J:Dr q t=true
   ·have t1:=fun e=>D4 F rfl e
    rcases(By q t).1 J with h|h|h|h|⟨rfl,h|h⟩
    ·exact Vf t q deep z w G hs I F ((t1 92).1 h)
    ·exact VW t q deep z w G hs I F ((t1 96).1 h)
    ·exact V0 t q deep z w G hs I F h
    ·exact Vq t q deep z w G hs I F h
    ·exact VZ t deep z w G hs I F ((t1 39).1 h)
    ·exact Vw t deep z w G hs I F ((t1 34).1 h)
   ·exact Up 0 t q deep z w hs F J
  ·obtain rfl:t=[]:=List.eq_nil_of_length_eq_zero (by omega);rw[Lz];exact SZ q deep z w
 |succ lv ih=>
  intro t q deep z w G hs I;by_cases F:0<t.length
  ·by_cases J:Dr q t=true
   ·have t1:=fun e=>D4 F rfl e
    rcases(By q t).1 J with h|h|h|h|⟨rfl,h|h⟩
    ·exact WN lv ih t q deep z w G hs I F ((t1 92).1 h)
    ·exact VS lv ih t q deep z w G hs I F ((t1 96).1 h)
    ·by_cases K:t.take 3=[36,40,40]
     ·exact WO lv ih t q deep z w G hs I F K
     ·exact V8 lv ih t q deep z w G hs I F h K
    ·cases q with
     |true=>exact TN lv ih t deep z w G hs I F h
     |false=>exact UG lv ih t deep z w G hs I F h
    ·exact Wh lv ih t deep z w G hs I F ((t1 39).1 h)
    ·exact Wo lv ih t deep z w G hs I F ((t1 34).1 h)
   ·exact Up (lv+1) t q deep z w hs F J
  ·obtain rfl:t=[]:=List.eq_nil_of_length_eq_zero (by omega);rw[Lz];exact SZ q deep z w
end Go.Proofs.YtdhfhphbkfgamaaGreat.Lx
