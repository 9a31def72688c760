/- PrintTells: a part of its proof. -/
import Derived.Test.YtdhfhphbkfgamaaGreatXm
set_option maxRecDepth 100000
set_option maxHeartbeats 64000000
namespace Go.Proofs.YtdhfhphbkfgamaaGreat.Lx
open Go.RowKit
theorem LV (lv:Nat) (q:Bool):Ac lv q []=.ok 0:=by
 have h: ¬Df q []=true:=by
  rw[Bt];rintro(h|h|h|h|⟨_,h|h⟩)<;>cases h
 cases lv with
 |zero=>unfold Ac;rw[U h]
 |succ lv=>unfold Ac;rw[U h]
theorem Di {t:List UInt8} {c:UInt8} (h:0<t.length) (z:t[0]=c) (d:UInt8):(t.take 1=[d])↔c=d:=by
 have:=Qz (i:=0) h z d;rwa [List.drop_zero]at this
theorem DI {t:List UInt8} {c a b:UInt8} (h:0<t.length) (z:t[0]=c) (F:t.take 2=[a,b]):c=a:=by
 have:=N0 (i:=0) (a:=a) (b:=b) h z;rw[List.drop_zero]at this;exact this F
theorem GI {w:World} {b:Nat} {x y F u:Value} {z:Array Value} (h:Y w b 108 #[x,y,F,u]) (G:z.getD 8 undef=.pointer (some ⟨b,0,none⟩)):(results Tryz.f88 z).run Tryz.prog w=.ok (.agg #[x,y,F,u]) w:=by
 have I:=Y.cell h 0;have J:=Y.cell h 1;have K:=Y.cell h 2;have L:=Y.cell h 3;have M:z[8]?.getD undef=.pointer (some ⟨b,0,none⟩):=(by simpa using G);simp[results,Tryz.results88,go_sem,M,I,J,K,L]
theorem Ra (c:UInt8):C3 [39] c=(c==39):=by
 unfold C3;by_cases h:c=39
 ·subst h;decide
 ·have z:((39:UInt8)==c)=false:=(by rw[beq_eq_false_iff_ne];exact fun e=>h e.symm);have F:(c==39)=false:=(by rw[beq_eq_false_iff_ne];exact h);simp[Lib.indexByte,z,F]
theorem Sm (c:UInt8) (h:c≠34):C3 [39] c=Ii false false c:=by
 have:(c==34)=false:=(by rw[beq_eq_false_iff_ne];exact h);rw[Ra];simp[Ii,this]
theorem TZ (c:UInt8):C3 [39] c=Ii false true c:=by rw[Ra];simp[Ii]
theorem XG (c:UInt8):C3 [] c=false:=by unfold C3;simp[Lib.indexByte]
theorem UM (c:UInt8):C3 [] c=Ii true true c:=by rw[XG];simp[Ii]
theorem Z2m {P:Prop} (h:P:=by
 unfold sv;go_enter Tryz.func88,Tryz.ntmps88;go_wp2_with fail;exact bodyPost_ret (GI (Y.new w 108 _) rfl) rfl ⟨by simp[BM,CL],AF (AB w none) _⟩):P:=h
theorem Vz (t:List UInt8) (q:Bool) (deep F:Nat) (w:World) (ab:0+deep=25) (hs:t.length≤1000000) (ac:F+t.length≤2000000) (h:0<t.length) (G:t[0]=92):
  Calls Tryz.prog 88 #[sv t,.bool q,.int .i64 deep,.int .i64 F] w fun e w'=>e=.returned (BM F (Ac 0 q t))∧w.grownBy w' none:=by
 have ad:=sz t;have ae:=Y.new w 108 #[.int .i64 0,.bool false,.bool false,.int .i64 0];have af:w.grownBy (w.alloc (.cells #[.int .i64 0,.bool false,.bool false,.int .i64 0] 108)) none:=AF (AB w none) _;have W:=BC t 0 h;have ag:(0:Int)<(t.length:Int):=(by omega);have ah:t.isEmpty=false:=(by cases t with|nil=>exact Ai h (Nat.lt_irrefl _)|cons=>rfl);obtain⟨c,z⟩: ∃c,t[0]=c:=⟨_,rfl⟩;rw[z]at W;have I:=fun e=>Di h z e
 have X:=fun a b (aa:t.take 2=[a,b])=>DI h z aa
 have J:=Bt q t;have K:=Z (fun w'=>Aa t [36,40] w' (by decide) (by omega));have L:=Z (fun w'=>Aa t [36,123] w' (by decide) (by omega));have M:=Z (fun w'=>Aa t [36,40,40] w' (by decide) (by omega));unfold sv at K L M;simp only[BP,List.length_nil,Nat.zero_add,Nat.reduceAdd]at K L M;obtain rfl:c=92:=z.symm.trans G;clear G;have N:Df q t=true:=J.2 (.inl ((I 92).2 rfl));have O:Ac 0 q t=.deep 0:=(by unfold Ac;rw[Ah N]);rw[O];have ai:decide ((24:Int)<(deep:Int))=true:=At (by omega);have aj:=h;clear O N I X J z;exact Z2m
theorem V6 (t:List UInt8) (q:Bool) (deep F:Nat) (w:World) (ab:0+deep=25) (hs:t.length≤1000000) (ac:F+t.length≤2000000) (h:0<t.length) (G:t[0]=96):
  Calls Tryz.prog 88 #[sv t,.bool q,.int .i64 deep,.int .i64 F] w fun e w'=>e=.returned (BM F (Ac 0 q t))∧w.grownBy w' none:=by
 have ad:=sz t;have ae:=Y.new w 108 #[.int .i64 0,.bool false,.bool false,.int .i64 0];have af:w.grownBy (w.alloc (.cells #[.int .i64 0,.bool false,.bool false,.int .i64 0] 108)) none:=AF (AB w none) _;have W:=BC t 0 h;have ag:(0:Int)<(t.length:Int):=(by omega);have ah:t.isEmpty=false:=(by cases t with|nil=>exact Ai h (Nat.lt_irrefl _)|cons=>rfl);obtain⟨c,z⟩: ∃c,t[0]=c:=⟨_,rfl⟩;rw[z]at W;have I:=fun e=>Di h z e
 have X:=fun a b (aa:t.take 2=[a,b])=>DI h z aa
 have J:=Bt q t;have K:=Z (fun w'=>Aa t [36,40] w' (by decide) (by omega));have L:=Z (fun w'=>Aa t [36,123] w' (by decide) (by omega));have M:=Z (fun w'=>Aa t [36,40,40] w' (by decide) (by omega));unfold sv at K L M;simp only[BP,List.length_nil,Nat.zero_add,Nat.reduceAdd]at K L M;obtain rfl:c=96:=z.symm.trans G;clear G;have N:Df q t=true:=J.2 (.inr (.inl ((I 96).2 rfl)));have O:Ac 0 q t=.deep 0:=(by unfold Ac;rw[Ah N]);rw[O];have ai:decide ((24:Int)<(deep:Int))=true:=At (by omega);have aj:=h;clear O N I X J z;exact Z2m
theorem VM (t:List UInt8) (deep F:Nat) (w:World) (ab:0+deep=25) (hs:t.length≤1000000) (ac:F+t.length≤2000000) (h:0<t.length) (G:t[0]=39):
  Calls Tryz.prog 88 #[sv t,.bool false,.int .i64 deep,.int .i64 F] w fun e w'=>e=.returned (BM F (Ac 0 false t))∧w.grownBy w' none:=by
 have ad:=sz t;have ae:=Y.new w 108 #[.int .i64 0,.bool false,.bool false,.int .i64 0];have af:w.grownBy (w.alloc (.cells #[.int .i64 0,.bool false,.bool false,.int .i64 0] 108)) none:=AF (AB w none) _;have W:=BC t 0 h;have ag:(0:Int)<(t.length:Int):=(by omega);have ah:t.isEmpty=false:=(by cases t with|nil=>exact Ai h (Nat.lt_irrefl _)|cons=>rfl);obtain⟨c,z⟩: ∃c,t[0]=c:=⟨_,rfl⟩;rw[z]at W;have I:=fun e=>Di h z e
 have X:=fun a b (aa:t.take 2=[a,b])=>DI h z aa
 have J:=Bt false t;have K:=Z (fun w'=>Aa t [36,40] w' (by decide) (by omega));have L:=Z (fun w'=>Aa t [36,123] w' (by decide) (by omega));have M:=Z (fun w'=>Aa t [36,40,40] w' (by decide) (by omega));unfold sv at K L M;simp only[BP,List.length_nil,Nat.zero_add,Nat.reduceAdd]at K L M;obtain rfl:c=39:=z.symm.trans G;clear G;have N:Df false t=true:=J.2 (.inr (.inr (.inr (.inr ⟨rfl,.inl ((I 39).2 rfl)⟩))));have O:Ac 0 false t=.deep 0:=(by unfold Ac;rw[Ah N]);rw[O];have ai:decide ((24:Int)<(deep:Int))=true:=At (by omega);have aj:=h;clear O N I X J z;exact Z2m
theorem Vb (t:List UInt8) (deep F:Nat) (w:World) (ab:0+deep=25) (hs:t.length≤1000000) (ac:F+t.length≤2000000) (h:0<t.length) (G:t[0]=34):
  Calls Tryz.prog 88 #[sv t,.bool false,.int .i64 deep,.int .i64 F] w fun e w'=>e=.returned (BM F (Ac 0 false t))∧w.grownBy w' none:=by
 have ad:=sz t;have ae:=Y.new w 108 #[.int .i64 0,.bool false,.bool false,.int .i64 0];have af:w.grownBy (w.alloc (.cells #[.int .i64 0,.bool false,.bool false,.int .i64 0] 108)) none:=AF (AB w none) _;have W:=BC t 0 h;have ag:(0:Int)<(t.length:Int):=(by omega);have ah:t.isEmpty=false:=(by cases t with|nil=>exact Ai h (Nat.lt_irrefl _)|cons=>rfl);obtain⟨c,z⟩: ∃c,t[0]=c:=⟨_,rfl⟩;rw[z]at W;have I:=fun e=>Di h z e
 have X:=fun a b (aa:t.take 2=[a,b])=>DI h z aa
 have J:=Bt false t;have K:=Z (fun w'=>Aa t [36,40] w' (by decide) (by omega));have L:=Z (fun w'=>Aa t [36,123] w' (by decide) (by omega));have M:=Z (fun w'=>Aa t [36,40,40] w' (by decide) (by omega));unfold sv at K L M;simp only[BP,List.length_nil,Nat.zero_add,Nat.reduceAdd]at K L M;obtain rfl:c=34:=z.symm.trans G;clear G;have N:Df false t=true:=J.2 (.inr (.inr (.inr (.inr ⟨rfl,.inr ((I 34).2 rfl)⟩))));have O:Ac 0 false t=.deep 0:=(by unfold Ac;rw[Ah N]);rw[O];have ai:decide ((24:Int)<(deep:Int))=true:=At (by omega);have aj:=h;clear O N I X J z;exact Z2m
theorem Uw (t:List UInt8) (q:Bool) (deep I:Nat) (w:World) (ae:0+deep=25) (hs:t.length≤1000000) (af:I+t.length≤2000000) (h:0<t.length) (F:t.take 2=[36,40]):
  Calls Tryz.prog 88 #[sv t,.bool q,.int .i64 deep,.int .i64 I] w fun e w'=>e=.returned (BM I (Ac 0 q t))∧w.grownBy w' none:=by
 have ag:=sz t;have ah:=Y.new w 108 #[.int .i64 0,.bool false,.bool false,.int .i64 0];have ai:w.grownBy (w.alloc (.cells #[.int .i64 0,.bool false,.bool false,.int .i64 0] 108)) none:=AF (AB w none) _;have X:=BC t 0 h;have aj:(0:Int)<(t.length:Int):=(by omega);have ak:t.isEmpty=false:=(by cases t with|nil=>exact Ai h (Nat.lt_irrefl _)|cons=>rfl);obtain⟨c,G⟩: ∃c,t[0]=c:=⟨_,rfl⟩;rw[G]at X;have aa:=fun e=>Di h G e
 have K:=fun a b (ab:t.take 2=[a,b])=>DI h G ab
 have L:=Bt q t;have J:=Z (fun w'=>Aa t [36,40] w' (by decide) (by omega));have M:=Z (fun w'=>Aa t [36,123] w' (by decide) (by omega));have N:=Z (fun w'=>Aa t [36,40,40] w' (by decide) (by omega));unfold sv at J M N;simp only[BP,List.length_nil,Nat.zero_add,Nat.reduceAdd]at J M N;obtain rfl:c=36:=K _ _ F;have O:Df q t=true:=L.2 (.inr (.inr (.inl F)));have ac:=Z (show∀z,Calls Tryz.prog 66 #[.string ⟨t.toArray⟩,.string ⟨#[36,40]⟩] z fun e ad=>e=.returned (.bool true)∧ad=z from fun z=>by have:=J.out z;rw[At F]at this;exact this);have W:Ac 0 q t=.deep 0:=(by unfold Ac;rw[Ah O]);rw[W];have al:decide ((24:Int)<(deep:Int))=true:=At (by omega);have am:=h;clear W O aa K L G F;cases q;all_goals
  unfold sv;go_enter Tryz.func88,Tryz.ntmps88;go_wp2_with fail;refine(ac.out _).mono ?_;rintro e z ⟨rfl,rfl⟩;go_wp2_with fail;exact bodyPost_ret (GI (Y.new w 108 _) rfl) rfl ⟨by simp[BM,CL],AF (AB w none) _⟩
theorem Vl (t:List UInt8) (q:Bool) (deep K:Nat) (w:World) (ah:0+deep=25) (hs:t.length≤1000000) (ai:K+t.length≤2000000) (F:0<t.length) (G:t.take 2=[36,123]):
  Calls Tryz.prog 88 #[sv t,.bool q,.int .i64 deep,.int .i64 K] w fun e w'=>e=.returned (BM K (Ac 0 q t))∧w.grownBy w' none:=by
 have aj:=sz t;have ak:=Y.new w 108 #[.int .i64 0,.bool false,.bool false,.int .i64 0];have al:w.grownBy (w.alloc (.cells #[.int .i64 0,.bool false,.bool false,.int .i64 0] 108)) none:=AF (AB w none) _;have ad:=BC t 0 F;have am:(0:Int)<(t.length:Int):=(by omega);have an:t.isEmpty=false:=(by cases t with|nil=>exact Ai F (Nat.lt_irrefl _)|cons=>rfl);obtain⟨c,J⟩: ∃c,t[0]=c:=⟨_,rfl⟩;rw[J]at ad;have ae:=fun e=>Di F J e
 have W:=fun a b (z:t.take 2=[a,b])=>DI F J z
 have X:=Bt q t;have L:=Z (fun w'=>Aa t [36,40] w' (by decide) (by omega));have M:=Z (fun w'=>Aa t [36,123] w' (by decide) (by omega));have N:=Z (fun w'=>Aa t [36,40,40] w' (by decide) (by omega));unfold sv at L M N;simp only[BP,List.length_nil,Nat.zero_add,Nat.reduceAdd]at L M N;obtain rfl:c=36:=W _ _ G;have O: ¬t.take 2=[36,40]:=fun z=>by rw[G]at z;exact Ai z (by decide)
 have aa: ¬t.take 3=[36,40,40]:=fun z=>O (IE z)
 have ab:Df q t=true:=X.2 (.inr (.inr (.inr (.inl G))));have af:=Z (show∀h,Calls Tryz.prog 66 #[.string ⟨t.toArray⟩,.string ⟨#[36,40]⟩] h fun e I=>e=.returned (.bool false)∧I=h from fun h=>by have:=L.out h;rw[Aq O]at this;exact this);have ag:=Z (show∀h,Calls Tryz.prog 66 #[.string ⟨t.toArray⟩,.string ⟨#[36,123]⟩] h fun e I=>e=.returned (.bool true)∧I=h from fun h=>by have:=M.out h;rw[At G]at this;exact this);have ao:=Z (show∀h,Calls Tryz.prog 66 #[.string ⟨t.toArray⟩,.string ⟨#[36,40,40]⟩] h fun e I=>e=.returned (.bool false)∧I=h from fun h=>by have:=N.out h;rw[Aq aa]at this;exact this);have ac:Ac 0 q t=.deep 0:=(by unfold Ac;rw[Ah ab]);rw[ac];have ap:decide ((24:Int)<(deep:Int))=true:=At (by omega);have aq:=F;clear ac ab ae W X J O G aa;cases q;all_goals
  unfold sv;go_enter Tryz.func88,Tryz.ntmps88;go_wp2_with fail;refine(af.out _).mono ?_;rintro e h ⟨rfl,rfl⟩;go_wp2_with fail;refine(ag.out _).mono ?_;rintro e h ⟨rfl,rfl⟩;go_wp2_with fail;exact bodyPost_ret (GI (Y.new w 108 _) rfl) rfl ⟨by simp[BM,CL],AF (AB w none) _⟩
theorem Vr (lv:Nat) (ih:IZ lv) (t:List UInt8) (q:Bool) (deep G:Nat) (w:World) (af:lv+1+deep=25) (hs:t.length≤1000000) (ag:G+t.length≤2000000) (F:0<t.length) (K:t[0]=92):
  Calls Tryz.prog 88 #[sv t,.bool q,.int .i64 deep,.int .i64 G] w fun e w'=>e=.returned (BM G (Ac (lv+1) q t))∧w.grownBy w' none:=by
 have ah:=sz t;have ai:=Y.new w 108 #[.int .i64 0,.bool false,.bool false,.int .i64 0];have aj:w.grownBy (w.alloc (.cells #[.int .i64 0,.bool false,.bool false,.int .i64 0] 108)) none:=AF (AB w none) _;have ab:=BC t 0 F;have ak:(0:Int)<(t.length:Int):=(by omega);have al:t.isEmpty=false:=(by cases t with|nil=>exact Ai F (Nat.lt_irrefl _)|cons=>rfl);obtain⟨c,h⟩: ∃c,t[0]=c:=⟨_,rfl⟩;rw[h]at ab;have I:=fun e=>Di F h e
 have ac:=fun a b (ad:t.take 2=[a,b])=>DI F h ad
 have L:=Bt q t;have M:=Z (fun w'=>Aa t [36,40] w' (by decide) (by omega));have N:=Z (fun w'=>Aa t [36,123] w' (by decide) (by omega));have O:=Z (fun w'=>Aa t [36,40,40] w' (by decide) (by omega));unfold sv at M N O;simp only[BP,List.length_nil,Nat.zero_add,Nat.reduceAdd]at M N O;obtain rfl:c=92:=h.symm.trans K;clear K;have W:Df q t=true:=L.2 (.inl ((I 92).2 rfl));have am:decide ((24:Int)<(deep:Int))=false:=Aq (by omega);obtain⟨R,J⟩: ∃R,Ac (lv+1) q t=R:=⟨_,rfl⟩;have X:=Z (show Ac (lv+1) q t=if t.length<2 then .more else .ok 2 by unfold Ac;rw[Ah W,Ah ((I 92).2 rfl)]);rw[J];have z:=J;rw[X.out]at z;clear X J W I ac L h;by_cases aa:t.length<2
 ·have ae:decide ((t.length:Int)<2)=true:=At (by omega);rw[Ah aa]at z;subst z;exact Z2m
 ·have ae:decide ((t.length:Int)<2)=false:=Aq (by omega);rw[U aa]at z;subst z;exact Z2m
theorem Uy (lv:Nat) (ih:IZ lv) (t:List UInt8) (q:Bool) (deep ab:Nat) (w:World) (ax:lv+1+deep=25) (hs:t.length≤1000000) (ay:ab+t.length≤2000000) (K:0<t.length) (af:t[0]=96):
  Calls Tryz.prog 88 #[sv t,.bool q,.int .i64 deep,.int .i64 ab] w fun e w'=>e=.returned (BM ab (Ac (lv+1) q t))∧w.grownBy w' none:=by
 have az:=sz t;have ao:=Y.new w 108 #[.int .i64 0,.bool false,.bool false,.int .i64 0];have ap:w.grownBy (w.alloc (.cells #[.int .i64 0,.bool false,.bool false,.int .i64 0] 108)) none:=AF (AB w none) _;have L:=BC t 0 K;have ag:(0:Int)<(t.length:Int):=(by omega);have aA:t.isEmpty=false:=(by cases t with|nil=>exact Ai K (Nat.lt_irrefl _)|cons=>rfl);obtain⟨c,F⟩: ∃c,t[0]=c:=⟨_,rfl⟩;rw[F]at L;have M:=fun e=>Di K F e
 have aq:=fun a b (ac:t.take 2=[a,b])=>DI K F ac
 have h:=Bt q t;have ah:=Z (fun w'=>Aa t [36,40] w' (by decide) (by omega));have ai:=Z (fun w'=>Aa t [36,123] w' (by decide) (by omega));have aj:=Z (fun w'=>Aa t [36,40,40] w' (by decide) (by omega));unfold sv at ah ai aj;simp only[BP,List.length_nil,Nat.zero_add,Nat.reduceAdd]at ah ai aj;obtain rfl:c=96:=F.symm.trans af;clear af;have ak:Df q t=true:=h.2 (.inr (.inl ((M 96).2 rfl)));have aB:decide ((24:Int)<(deep:Int))=false:=Aq (by omega);obtain⟨R,G⟩: ∃R,Ac (lv+1) q t=R:=⟨_,rfl⟩;have ar:=Z (show Ac (lv+1) q t=(BT 96 true (t.drop 1)).add 1 by unfold Ac;rw[Ah ak,U (fun ac=>Ai ((M 92).1 ac) (by decide)),Ah ((M 96).2 rfl)]);rw[G];have G:=Z G;clear ak M aq h F;unfold sv;go_enter Tryz.func88,Tryz.ntmps88;go_wp2_with fail;go_loopw [12] (fun ad wr=> ∃k:Nat,ad=.int .i64 k∧k≤t.length+1∧Y wr w.heap.size 108 #[.int .i64 0,.bool false,.bool false,.int .i64 0]∧w.grownBy wr none∧(BT 96 true (t.drop k)).add k=R) (fun ad _=>t.length+2-(intOf ad).toNat);case atStart=>exact⟨1,rfl,by omega,ao,ap,by rw[←ar.out,G.out]⟩
 case round=>
  obtain⟨k,rfl,hk,h,al,am⟩:=hrel;have N:=Z h;have O:=Z al;have W:=Z am;have aC:=Y.cell h 0;have aD:=Y.cell h 1;have aE:=Y.cell h 2;have aF:=Y.cell h 3;have aG:=Y.frozen h 0;have aH:=Y.frozen h 1;have aI:=Y.frozen h 2;have z3:=Y.frozen h 3;have lb:=Y.lt h;clear h al am G L ag;by_cases an:k<t.length
  ·have au:decide ((k:Int)<(t.length:Int))=true:=At (by omega);have L:=BC t k an;have ag:(0:Int)≤k∧(k:Int)<(t.length:Int):=(by omega);have z:=CC an;obtain⟨b,X⟩: ∃b,t[k]=b:=⟨_,rfl⟩;rw[X]at L z;by_cases I:b=92
   ·subst I;have J:=Z (show BT 96 true (t.drop k)=(BT 96 true (t.drop (k+2))).add 2 by rw[z,LM ⟨rfl,rfl⟩,List.drop_drop]);clear z X;go_wp2_with fail;go_roundw;case rel=>exact⟨k+2,by go_num,by omega,N.out,O.out,by rw[←W.out,J.out,Rs.add_add]⟩
    case measure=>simp[intOf];omega
   have aJ:((b.toNat:Int)==92)=false:=Au (d:=92) I;by_cases aa:b=96
   ·subst aa;have J:=Z (show BT 96 true (t.drop k)=.ok 1 by rw[z];exact Jb (fun ae=>Ai ae.2 I) rfl);clear z X;go_wp2_with fail;exact bodyPost_ret (GI (Gq N.out _ _ _ _) rfl) rfl ⟨by rw[←W.out,J.out];simp[BM,CL,Rs.add],Ma O.out (BL _) _ _ _ _⟩
   ·have aK:((b.toNat:Int)==96)=false:=Au (d:=96) aa;have J:=Z (show BT 96 true (t.drop k)=(BT 96 true (t.drop (k+1))).add 1 by rw[z];exact Ki (fun ae=>Ai ae.2 I) aa);clear z X aa I;go_wp2_with fail;go_roundw;case rel=>exact⟨k+1,by go_num,by omega,N.out,O.out,by rw[←W.out,J.out,Rs.add_add]⟩
    case measure=>simp[intOf];omega
  ·have au:decide ((k:Int)<(t.length:Int))=false:=Aq (by omega);have aw:R=.more:=by
    have:=W.out;rw[List.drop_eq_nil_of_le (by omega)]at this;exact this.symm
   subst aw;go_wp2_with fail;exact bodyPost_ret (GI (Gq N.out _ _ _ _) rfl) rfl ⟨by simp[BM,CL],Ma O.out (BL _) _ _ _ _⟩
theorem Vf (lv:Nat) (ih:IZ lv) (t:List UInt8) (deep N:Nat) (w:World) (aw:lv+1+deep=25) (hs:t.length≤1000000) (ax:N+t.length≤2000000) (K:0<t.length) (ae:t[0]=39):
  Calls Tryz.prog 88 #[sv t,.bool false,.int .i64 deep,.int .i64 N] w fun e w'=>e=.returned (BM N (Ac (lv+1) false t))∧w.grownBy w' none:=by
 have ay:=sz t;have an:=Y.new w 108 #[.int .i64 0,.bool false,.bool false,.int .i64 0];have ao:w.grownBy (w.alloc (.cells #[.int .i64 0,.bool false,.bool false,.int .i64 0] 108)) none:=AF (AB w none) _;have L:=BC t 0 K;have af:(0:Int)<(t.length:Int):=(by omega);have az:t.isEmpty=false:=(by cases t with|nil=>exact Ai K (Nat.lt_irrefl _)|cons=>rfl);obtain⟨c,z⟩: ∃c,t[0]=c:=⟨_,rfl⟩;rw[z]at L;have F:=fun e=>Di K z e
 have ap:=fun a b (G:t.take 2=[a,b])=>DI K z G
 have h:=Bt false t;have ag:=Z (fun w'=>Aa t [36,40] w' (by decide) (by omega));have ah:=Z (fun w'=>Aa t [36,123] w' (by decide) (by omega));have ai:=Z (fun w'=>Aa t [36,40,40] w' (by decide) (by omega));unfold sv at ag ah ai;simp only[BP,List.length_nil,Nat.zero_add,Nat.reduceAdd]at ag ah ai;obtain rfl:c=39:=z.symm.trans ae;clear ae;have aj:Df false t=true:=h.2 (.inr (.inr (.inr (.inr ⟨rfl,.inl ((F 39).2 rfl)⟩))));have aA:decide ((24:Int)<(deep:Int))=false:=Aq (by omega);obtain⟨R,I⟩: ∃R,Ac (lv+1) false t=R:=⟨_,rfl⟩;have aq:=Z (show Ac (lv+1) false t=(BT 39 false (t.drop 1)).add 1 by unfold Ac;rw[Ah aj,U (fun G=>Ai ((F 92).1 G) (by decide)),U (fun G=>Ai ((F 96).1 G) (by decide)),Ah ((F 39).2 rfl)]);rw[I];have I:=Z I;clear aj F ap h z;unfold sv;go_enter Tryz.func88,Tryz.ntmps88;go_wp2_with fail;go_loopw [11] (fun O wr=> ∃k:Nat,O=.int .i64 k∧k≤t.length+1∧Y wr w.heap.size 108 #[.int .i64 0,.bool false,.bool false,.int .i64 0]∧w.grownBy wr none∧(BT 39 false (t.drop k)).add k=R) (fun O _=>t.length+2-(intOf O).toNat);case atStart=>exact⟨1,rfl,by omega,an,ao,by rw[←aq.out,I.out]⟩
 case round=>
  obtain⟨k,rfl,hk,h,ak,al⟩:=hrel;have W:=Z h;have X:=Z ak;have aa:=Z al;have aB:=Y.cell h 0;have aC:=Y.cell h 1;have aD:=Y.cell h 2;have aE:=Y.cell h 3;have aF:=Y.frozen h 0;have aG:=Y.frozen h 1;have aH:=Y.frozen h 2;have z3:=Y.frozen h 3;have lb:=Y.lt h;clear h ak al I L af;by_cases am:k<t.length
  ·have ar:decide ((k:Int)<(t.length:Int))=true:=At (by omega);have L:=BC t k am;have af:(0:Int)≤k∧(k:Int)<(t.length:Int):=(by omega);have J:=CC am;obtain⟨b,ab⟩: ∃b,t[k]=b:=⟨_,rfl⟩;rw[ab]at L J;by_cases M:b=39
   ·subst M;have ac:=Z (show BT 39 false (t.drop k)=.ok 1 by rw[J];exact Jb (fun ad=>Bool.false_ne_true ad.1) rfl);clear J ab;go_wp2_with fail;exact bodyPost_ret (GI (Gq W.out _ _ _ _) rfl) rfl ⟨by rw[←aa.out,ac.out];simp[BM,CL,Rs.add],Ma X.out (BL _) _ _ _ _⟩
   ·have aI:((b.toNat:Int)==39)=false:=Au (d:=39) M;have ac:=Z (show BT 39 false (t.drop k)=(BT 39 false (t.drop (k+1))).add 1 by rw[J];exact Ki (fun ad=>Bool.false_ne_true ad.1) M);clear J ab M;go_wp2_with fail;go_roundw;case rel=>exact⟨k+1,by go_num,by omega,W.out,X.out,by rw[←aa.out,ac.out,Rs.add_add]⟩
    case measure=>simp[intOf];omega
  ·have ar:decide ((k:Int)<(t.length:Int))=false:=Aq (by omega);have au:R=.more:=by
    have:=aa.out;rw[List.drop_eq_nil_of_le (by omega)]at this;exact this.symm
   subst au;go_wp2_with fail;exact bodyPost_ret (GI (Gq W.out _ _ _ _) rfl) rfl ⟨by simp[BM,CL],Ma X.out (BL _) _ _ _ _⟩
theorem VC (lv:Nat) (ih:IZ lv) (t:List UInt8) (deep F:Nat) (w:World) (al:lv+1+deep=25) (hs:t.length≤1000000) (ad:F+t.length≤2000000) (J:0<t.length) (N:t[0]=34):
  Calls Tryz.prog 88 #[sv t,.bool false,.int .i64 deep,.int .i64 F] w fun e w'=>e=.returned (BM F (Ac (lv+1) false t))∧w.grownBy w' none:=by
 have am:=sz t;have ae:=Y.new w 108 #[.int .i64 0,.bool false,.bool false,.int .i64 0];have af:w.grownBy (w.alloc (.cells #[.int .i64 0,.bool false,.bool false,.int .i64 0] 108)) none:=AF (AB w none) _;have ag:=BC t 0 J;have an:(0:Int)<(t.length:Int):=(by omega);have ao:t.isEmpty=false:=(by cases t with|nil=>exact Ai J (Nat.lt_irrefl _)|cons=>rfl);obtain⟨c,I⟩: ∃c,t[0]=c:=⟨_,rfl⟩;rw[I]at ag;have G:=fun e=>Di J I e
 have ah:=fun a b (z:t.take 2=[a,b])=>DI J I z
 have O:=Bt false t;have W:=Z (fun w'=>Aa t [36,40] w' (by decide) (by omega));have X:=Z (fun w'=>Aa t [36,123] w' (by decide) (by omega));have aa:=Z (fun w'=>Aa t [36,40,40] w' (by decide) (by omega));unfold sv at W X aa;simp only[BP,List.length_nil,Nat.zero_add,Nat.reduceAdd]at W X aa;obtain rfl:c=34:=I.symm.trans N;clear N;have ab:Df false t=true:=O.2 (.inr (.inr (.inr (.inr ⟨rfl,.inr ((G 34).2 rfl)⟩))));have ap:decide ((24:Int)<(deep:Int))=false:=Aq (by omega);obtain⟨R,L⟩: ∃R,Ac (lv+1) false t=R:=⟨_,rfl⟩;have ac:=Z (show Ac (lv+1) false t=(BJ (Ac lv true) 34 [39] 0 (t.drop 1)).add 1 by unfold Ac;rw[Ah ab,U (fun z=>Ai ((G 92).1 z) (by decide)),U (fun z=>Ai ((G 96).1 z) (by decide)),U (fun z=>Ai ((G 39).1 z) (by decide)),Ah ((G 34).2 rfl)]);have ai:=Z (show∀K,Calls Tryz.prog 99 #[.string ⟨t.toArray⟩,.int .i64 1,.int .u8 34,.int .u8 0,.bool false,.bool false,.bool true,.int .i64 deep,.int .i64 F] K fun e aj=>e=.returned (BM F R)∧K.grownBy aj none from fun K=>by
  have:=IF lv ih t 1 34 0 false false true [39] deep F K (by omega) hs ad (by omega) (Sm) (by decide);rw[←ac.out,L]at this;exact this)
 rw[L];clear L ac ab G ah O I;unfold sv;go_enter Tryz.func88,Tryz.ntmps88;go_wp2_with fail;refine(ai.out _).mono ?_;rintro e aq ⟨rfl,M⟩;have h:=Z (Y.grown ae M (by simp));have ak:=Z (AI af M);have ar:=Y.cell h.out 0;have au:=Y.cell h.out 1;have aw:=Y.cell h.out 2;have ax:=Y.cell h.out 3;have ay:=Y.frozen h.out 0;have az:=Y.frozen h.out 1;have aA:=Y.frozen h.out 2;have z3:=Y.frozen h.out 3;have lb:=Y.lt h.out;clear M;unfold BM;cases R;all_goals
  unfold CL;go_wp2_with fail;exact bodyPost_ret (GI (Gq h.out _ _ _ _) rfl) rfl ⟨rfl,Ma ak.out (BL _) _ _ _ _⟩
theorem V9 (lv:Nat) (ih:IZ lv) (t:List UInt8) (q:Bool) (deep G:Nat) (w:World) (ao:lv+1+deep=25) (hs:t.length≤1000000) (ah:G+t.length≤2000000) (L:0<t.length) (I:t.take 2=[36,40]) (N: ¬t.take 3=[36,40,40]):
  Calls Tryz.prog 88 #[sv t,.bool q,.int .i64 deep,.int .i64 G] w fun e w'=>e=.returned (BM G (Ac (lv+1) q t))∧w.grownBy w' none:=by
 have ap:=sz t;have ai:=Y.new w 108 #[.int .i64 0,.bool false,.bool false,.int .i64 0];have aj:w.grownBy (w.alloc (.cells #[.int .i64 0,.bool false,.bool false,.int .i64 0] 108)) none:=AF (AB w none) _;have ak:=BC t 0 L;have aq:(0:Int)<(t.length:Int):=(by omega);have ar:t.isEmpty=false:=(by cases t with|nil=>exact Ai L (Nat.lt_irrefl _)|cons=>rfl);obtain⟨c,M⟩: ∃c,t[0]=c:=⟨_,rfl⟩;rw[M]at ak;have J:=fun e=>Di L M e
 have ab:=fun a b (F:t.take 2=[a,b])=>DI L M F
 have ac:=Bt q t;have O:=Z (fun w'=>Aa t [36,40] w' (by decide) (by omega));have ad:=Z (fun w'=>Aa t [36,123] w' (by decide) (by omega));have W:=Z (fun w'=>Aa t [36,40,40] w' (by decide) (by omega));unfold sv at O ad W;simp only[BP,List.length_nil,Nat.zero_add,Nat.reduceAdd]at O ad W;obtain rfl:c=36:=ab _ _ I;have ae:Df q t=true:=ac.2 (.inr (.inr (.inl I)));have af:=Z (show∀h,Calls Tryz.prog 66 #[.string ⟨t.toArray⟩,.string ⟨#[36,40]⟩] h fun e K=>e=.returned (.bool true)∧K=h from fun h=>by have:=O.out h;rw[At I]at this;exact this);have al:=Z (show∀h,Calls Tryz.prog 66 #[.string ⟨t.toArray⟩,.string ⟨#[36,40,40]⟩] h fun e K=>e=.returned (.bool false)∧K=h from fun h=>by have:=W.out h;rw[Aq N]at this;exact this);have au:decide ((24:Int)<(deep:Int))=false:=Aq (by omega);obtain⟨R,X⟩: ∃R,Ac (lv+1) q t=R:=⟨_,rfl⟩;have aw:2≤t.length:=(by have:=take_len I;simpa using this);have ag:=Z (show Ac (lv+1) q t=(BJ (Ac lv false) 41 [] 0 (t.drop 2)).add 2 by unfold Ac;rw[Ah ae,U (fun F=>Ai ((J 92).1 F) (by decide)),U (fun F=>Ai ((J 96).1 F) (by decide)),U (fun F=>Ai ((J 39).1 F) (by decide)),U (fun F=>Ai ((J 34).1 F) (by decide)),U N,Ah I]);have am:=Z (show∀h,Calls Tryz.prog 99 #[.string ⟨t.toArray⟩,.int .i64 2,.int .u8 41,.int .u8 40,.bool true,.bool true,.bool false,.int .i64 deep,.int .i64 G] h fun e K=>e=.returned (BM G R)∧h.grownBy K none from fun h=>by
  have:=IF lv ih t 2 41 40 true true false [] deep G h (by omega) hs ah (by omega) (fun c _=>UM c) (by decide);rw[←ag.out,X]at this;exact this)
 rw[X];clear X ag ae J ab ac M I N;cases q;all_goals
  unfold sv;go_enter Tryz.func88,Tryz.ntmps88;go_wp2_with fail;refine(af.out _).mono ?_;rintro e h ⟨rfl,rfl⟩;go_wp2_with fail;refine(al.out _).mono ?_;rintro e h ⟨rfl,rfl⟩;go_wp2_with fail;refine(af.out _).mono ?_;rintro e h ⟨rfl,rfl⟩;go_wp2_with fail;refine(am.out _).mono ?_;rintro e ax ⟨rfl,aa⟩;have z:=Z (Y.grown ai aa (by simp));have an:=Z (AI aj aa);have ay:=Y.cell z.out 0;have az:=Y.cell z.out 1;have aA:=Y.cell z.out 2;have aB:=Y.cell z.out 3;have aC:=Y.frozen z.out 0;have aD:=Y.frozen z.out 1;have aE:=Y.frozen z.out 2;have z3:=Y.frozen z.out 3;have lb:=Y.lt z.out;clear aa;unfold BM;cases R;all_goals
   unfold CL;go_wp2_with fail;exact bodyPost_ret (GI (Gq z.out _ _ _ _) rfl) rfl ⟨rfl,Ma an.out (BL _) _ _ _ _⟩
theorem Z2l {P:Prop} (h:P:=by
 rw[ab];clear ab ah af K ad ae M N J aa;unfold sv;go_enter Tryz.func88,Tryz.ntmps88;go_wp2_with fail;refine(ag.out _).mono ?_;rintro e h ⟨rfl,rfl⟩;go_wp2_with fail;refine(am.out _).mono ?_;rintro e h ⟨rfl,rfl⟩;go_wp2_with fail;refine(an.out _).mono ?_;rintro e h ⟨rfl,rfl⟩;go_wp2_with fail;refine(ag.out _).mono ?_;rintro e h ⟨rfl,rfl⟩;go_wp2_with fail;refine(ao.out _).mono ?_;rintro e az ⟨rfl,ac⟩;have F:=Z (Y.grown aj ac (by simp));have ap:=Z (AI ak ac);have aA:=Y.cell F.out 0;have aB:=Y.cell F.out 1;have aC:=Y.cell F.out 2;have aD:=Y.cell F.out 3;have aE:=Y.frozen F.out 0;have aF:=Y.frozen F.out 1;have aG:=Y.frozen F.out 2;have z3:=Y.frozen F.out 3;have lb:=Y.lt F.out;clear ac;unfold BM;cases R;all_goals
  unfold CL;go_wp2_with fail;exact bodyPost_ret (GI (Gq F.out _ _ _ _) rfl) rfl ⟨rfl,Ma ap.out (BL _) _ _ _ _⟩):P:=h
theorem Sj (lv:Nat) (ih:IZ lv) (t:List UInt8) (deep I:Nat) (w:World) (aq:lv+1+deep=25) (hs:t.length≤1000000) (ai:I+t.length≤2000000) (L:0<t.length) (J:t.take 2=[36,123]):
  Calls Tryz.prog 88 #[sv t,.bool true,.int .i64 deep,.int .i64 I] w fun e w'=>e=.returned (BM I (Ac (lv+1) true t))∧w.grownBy w' none:=by
 have ar:=sz t;have aj:=Y.new w 108 #[.int .i64 0,.bool false,.bool false,.int .i64 0];have ak:w.grownBy (w.alloc (.cells #[.int .i64 0,.bool false,.bool false,.int .i64 0] 108)) none:=AF (AB w none) _;have al:=BC t 0 L;have au:(0:Int)<(t.length:Int):=(by omega);have aw:t.isEmpty=false:=(by cases t with|nil=>exact Ai L (Nat.lt_irrefl _)|cons=>rfl);obtain⟨c,M⟩: ∃c,t[0]=c:=⟨_,rfl⟩;rw[M]at al;have K:=fun e=>Di L M e
 have ad:=fun a b (z:t.take 2=[a,b])=>DI L M z
 have ae:=Bt true t;have O:=Z (fun w'=>Aa t [36,40] w' (by decide) (by omega));have W:=Z (fun w'=>Aa t [36,123] w' (by decide) (by omega));have X:=Z (fun w'=>Aa t [36,40,40] w' (by decide) (by omega));unfold sv at O W X;simp only[BP,List.length_nil,Nat.zero_add,Nat.reduceAdd]at O W X;obtain rfl:c=36:=ad _ _ J;have N: ¬t.take 2=[36,40]:=fun z=>by rw[J]at z;exact Ai z (by decide)
 have aa: ¬t.take 3=[36,40,40]:=fun z=>N (IE z)
 have af:Df true t=true:=ae.2 (.inr (.inr (.inr (.inl J))));have ag:=Z (show∀h,Calls Tryz.prog 66 #[.string ⟨t.toArray⟩,.string ⟨#[36,40]⟩] h fun e G=>e=.returned (.bool false)∧G=h from fun h=>by have:=O.out h;rw[Aq N]at this;exact this);have am:=Z (show∀h,Calls Tryz.prog 66 #[.string ⟨t.toArray⟩,.string ⟨#[36,123]⟩] h fun e G=>e=.returned (.bool true)∧G=h from fun h=>by have:=W.out h;rw[At J]at this;exact this);have an:=Z (show∀h,Calls Tryz.prog 66 #[.string ⟨t.toArray⟩,.string ⟨#[36,40,40]⟩] h fun e G=>e=.returned (.bool false)∧G=h from fun h=>by have:=X.out h;rw[Aq aa]at this;exact this);have ax:decide ((24:Int)<(deep:Int))=false:=Aq (by omega);obtain⟨R,ab⟩: ∃R,Ac (lv+1) true t=R:=⟨_,rfl⟩;have ay:2≤t.length:=(by have:=take_len J;simpa using this);have ah:=Z (show Ac (lv+1) true t=(BJ (Ac lv true) 125 [39] 0 (t.drop 2)).add 2 by unfold Ac;rw[Ah af,U (fun z=>Ai ((K 92).1 z) (by decide)),U (fun z=>Ai ((K 96).1 z) (by decide)),U (fun z=>Ai ((K 39).1 z) (by decide)),U (fun z=>Ai ((K 34).1 z) (by decide)),U aa,U N,Ah rfl]);have ao:=Z (show∀h,Calls Tryz.prog 99 #[.string ⟨t.toArray⟩,.int .i64 2,.int .u8 125,.int .u8 0,.bool false,.bool true,.bool true,.int .i64 deep,.int .i64 I] h fun e G=>e=.returned (BM I R)∧h.grownBy G none from fun h=>by
  have:=IF lv ih t 2 125 0 false true true [39] deep I h (by omega) hs ai (by omega) (fun c _=>TZ c) (by decide);rw[←ah.out,ab]at this;exact this)
 exact Z2l
theorem TG (lv:Nat) (ih:IZ lv) (t:List UInt8) (deep I:Nat) (w:World) (aq:lv+1+deep=25) (hs:t.length≤1000000) (ai:I+t.length≤2000000) (L:0<t.length) (J:t.take 2=[36,123]):
  Calls Tryz.prog 88 #[sv t,.bool false,.int .i64 deep,.int .i64 I] w fun e w'=>e=.returned (BM I (Ac (lv+1) false t))∧w.grownBy w' none:=by
 have ar:=sz t;have aj:=Y.new w 108 #[.int .i64 0,.bool false,.bool false,.int .i64 0];have ak:w.grownBy (w.alloc (.cells #[.int .i64 0,.bool false,.bool false,.int .i64 0] 108)) none:=AF (AB w none) _;have al:=BC t 0 L;have au:(0:Int)<(t.length:Int):=(by omega);have aw:t.isEmpty=false:=(by cases t with|nil=>exact Ai L (Nat.lt_irrefl _)|cons=>rfl);obtain⟨c,M⟩: ∃c,t[0]=c:=⟨_,rfl⟩;rw[M]at al;have K:=fun e=>Di L M e
 have ad:=fun a b (z:t.take 2=[a,b])=>DI L M z
 have ae:=Bt false t;have O:=Z (fun w'=>Aa t [36,40] w' (by decide) (by omega));have W:=Z (fun w'=>Aa t [36,123] w' (by decide) (by omega));have X:=Z (fun w'=>Aa t [36,40,40] w' (by decide) (by omega));unfold sv at O W X;simp only[BP,List.length_nil,Nat.zero_add,Nat.reduceAdd]at O W X;obtain rfl:c=36:=ad _ _ J;have N: ¬t.take 2=[36,40]:=fun z=>by rw[J]at z;exact Ai z (by decide)
 have aa: ¬t.take 3=[36,40,40]:=fun z=>N (IE z)
 have af:Df false t=true:=ae.2 (.inr (.inr (.inr (.inl J))));have ag:=Z (show∀h,Calls Tryz.prog 66 #[.string ⟨t.toArray⟩,.string ⟨#[36,40]⟩] h fun e G=>e=.returned (.bool false)∧G=h from fun h=>by have:=O.out h;rw[Aq N]at this;exact this);have am:=Z (show∀h,Calls Tryz.prog 66 #[.string ⟨t.toArray⟩,.string ⟨#[36,123]⟩] h fun e G=>e=.returned (.bool true)∧G=h from fun h=>by have:=W.out h;rw[At J]at this;exact this);have an:=Z (show∀h,Calls Tryz.prog 66 #[.string ⟨t.toArray⟩,.string ⟨#[36,40,40]⟩] h fun e G=>e=.returned (.bool false)∧G=h from fun h=>by have:=X.out h;rw[Aq aa]at this;exact this);have ax:decide ((24:Int)<(deep:Int))=false:=Aq (by omega);obtain⟨R,ab⟩: ∃R,Ac (lv+1) false t=R:=⟨_,rfl⟩;have ay:2≤t.length:=(by have:=take_len J;simpa using this);have ah:=Z (show Ac (lv+1) false t=(BJ (Ac lv false) 125 [] 0 (t.drop 2)).add 2 by unfold Ac;rw[Ah af,U (fun z=>Ai ((K 92).1 z) (by decide)),U (fun z=>Ai ((K 96).1 z) (by decide)),U (fun z=>Ai ((K 39).1 z) (by decide)),U (fun z=>Ai ((K 34).1 z) (by decide)),U aa,U N,U Bool.false_ne_true]);have ao:=Z (show∀h,Calls Tryz.prog 99 #[.string ⟨t.toArray⟩,.int .i64 2,.int .u8 125,.int .u8 0,.bool true,.bool true,.bool false,.int .i64 deep,.int .i64 I] h fun e G=>e=.returned (BM I R)∧h.grownBy G none from fun h=>by
  have:=IF lv ih t 2 125 0 true true false [] deep I h (by omega) hs ai (by omega) (fun c _=>UM c) (by decide);rw[←ah.out,ab]at this;exact this)
 exact Z2l
theorem Vx (lv:Nat) (ih:IZ lv) (t:List UInt8) (q:Bool) (deep ak:Nat) (w:World) (aL:lv+1+deep=25) (hs:t.length≤1000000) (aM:ak+t.length≤2000000) (ae:0<t.length) (K:t.take 3=[36,40,40]):
  Calls Tryz.prog 88 #[sv t,.bool q,.int .i64 deep,.int .i64 ak] w fun e w'=>e=.returned (BM ak (Ac (lv+1) q t))∧w.grownBy w' none:=by
 have aN:=sz t;have aC:=Y.new w 108 #[.int .i64 0,.bool false,.bool false,.int .i64 0];have aD:w.grownBy (w.alloc (.cells #[.int .i64 0,.bool false,.bool false,.int .i64 0] 108)) none:=AF (AB w none) _;have af:=BC t 0 ae;have au:(0:Int)<(t.length:Int):=(by omega);have aO:t.isEmpty=false:=(by cases t with|nil=>exact Ai ae (Nat.lt_irrefl _)|cons=>rfl);obtain⟨c,ag⟩: ∃c,t[0]=c:=⟨_,rfl⟩;rw[ag]at af;have ab:=fun e=>Di ae ag e
 have aw:=fun a b (G:t.take 2=[a,b])=>DI ae ag G
 have z:=Bt q t;have al:=Z (fun w'=>Aa t [36,40] w' (by decide) (by omega));have ax:=Z (fun w'=>Aa t [36,123] w' (by decide) (by omega));have am:=Z (fun w'=>Aa t [36,40,40] w' (by decide) (by omega));unfold sv at al ax am;simp only[BP,List.length_nil,Nat.zero_add,Nat.reduceAdd]at al ax am;have an:=IE K;obtain rfl:c=36:=aw _ _ an;have ay:Df q t=true:=z.2 (.inr (.inr (.inl (IE K))));have aE:=Z (show∀h,Calls Tryz.prog 66 #[.string ⟨t.toArray⟩,.string ⟨#[36,40]⟩] h fun e ac=>e=.returned (.bool true)∧ac=h from fun h=>by have:=al.out h;rw[At an]at this;exact this);have aF:=Z (show∀h,Calls Tryz.prog 66 #[.string ⟨t.toArray⟩,.string ⟨#[36,40,40]⟩] h fun e ac=>e=.returned (.bool true)∧ac=h from fun h=>by have:=am.out h;rw[At K]at this;exact this);have aP:decide ((24:Int)<(deep:Int))=false:=Aq (by omega);obtain⟨R,ad⟩: ∃R,Ac (lv+1) q t=R:=⟨_,rfl⟩;have aG:3≤t.length:=(by have:=take_len K;simpa using this);have aH:=Z (show Ac (lv+1) q t=(Bn 0 (t.drop 3)).add 3 by unfold Ac;rw[Ah ay,U (fun G=>Ai ((ab 92).1 G) (by decide)),U (fun G=>Ai ((ab 96).1 G) (by decide)),U (fun G=>Ai ((ab 39).1 G) (by decide)),U (fun G=>Ai ((ab 34).1 G) (by decide)),Ah K]);rw[ad];have ad:=Z ad;clear ay ab aw z ag an K;cases q;all_goals
  unfold sv;go_enter Tryz.func88,Tryz.ntmps88;go_wp2_with fail;refine(aE.out _).mono ?_;rintro e h ⟨rfl,rfl⟩;go_wp2_with fail;refine(aF.out _).mono ?_;rintro e h ⟨rfl,rfl⟩;go_wp2_with fail;go_loopw [13,14] (fun aI ao wr=> ∃o k:Nat,aI=.int .i64 o∧ao=.int .i64 k∧k≤t.length∧o≤k∧Y wr w.heap.size 108 #[.int .i64 0,.bool false,.bool false,.int .i64 0]∧w.grownBy wr none∧(Bn o (t.drop k)).add k=R) (fun _ ao _=>t.length+1-(intOf ao).toNat);case atStart=>exact⟨0,3,rfl,rfl,aG,by omega,aC,aD,by rw[←aH.out,ad.out]⟩
  case round=>
   obtain⟨o,k,rfl,rfl,hk,aQ,z,az,aA⟩:=hrel;have L:=Z z;have M:=Z az;have N:=Z aA;have aR:=Y.cell z 0;have aS:=Y.cell z 1;have aT:=Y.cell z 2;have aU:=Y.cell z 3;have aV:=Y.frozen z 0;have aW:=Y.frozen z 1;have aX:=Y.frozen z 2;have z3:=Y.frozen z 3;have lb:=Y.lt z;clear z az aA ad af au;by_cases aB:k<t.length
   ·have aJ:decide ((k:Int)<(t.length:Int))=true:=At (by omega);have af:=BC t k aB;have au:(0:Int)≤k∧(k:Int)<(t.length:Int):=(by omega);have aY:(0:Int)≤k∧(k:Int)≤(t.length:Int):=(by omega);have aZ:=GK t k t.length rfl;have F:=CC aB;obtain⟨b,O⟩: ∃b,t[k]=b:=⟨_,rfl⟩;rw[O]at af F;by_cases ah:b=40
    ·subst ah;have I:=Z (show Bn o (t.drop k)=(Bn (o+1) (t.drop (k+1))).add 1 by rw[F];cases o<;>rfl);clear F O;go_wp2_with fail;go_roundw;case rel=>exact⟨o+1,k+1,by go_num,by go_num,by omega,by omega,L.out,M.out,by rw[←N.out,I.out,Rs.add_add]⟩
     case measure=>simp[intOf];omega
    have a0:((b.toNat:Int)==40)=false:=Au (d:=40) ah;by_cases ai:b=41
    ·subst ai;by_cases a1:0<o
     ·obtain⟨J,rfl⟩: ∃J,o=J+1:=⟨o-1,by omega⟩;have I:=Z (show Bn (J+1) (t.drop k)=(Bn J (t.drop (k+1))).add 1 by rw[F];rfl);have a2:decide ((0:Int)<((J+1:Nat):Int))=true:=At (by omega);have a3:decide ((0:Int)<(J:Int)+1)=true:=At (by omega);clear F O;go_wp2_with fail;go_roundw;case rel=>exact⟨J,k+1,by go_num,by go_num,by omega,by omega,L.out,M.out,by rw[←N.out,I.out,Rs.add_add]⟩
      case measure=>simp[intOf];omega
     ·obtain rfl:o=0:=by omega
      have ap:(t.drop k).take 2=41::(t.drop (k+1)).take 1:=(by rw[F];rfl);have aq:decide ((t.drop k).take 2=[41,41])=decide ((t.drop (k+1)).take 1=[41]):=(by rw[ap];simp);have aj:=fun h=>Aa (t.drop k) [41,41] h (by decide) (by rw[Dq];omega)
      unfold sv at aj;have W: ∀h,Calls Tryz.prog 66 #[.string ⟨(t.drop k).toArray⟩,.string ⟨#[41,41]⟩] h fun e ac=>e=.returned (.bool (decide ((t.drop (k+1)).take 1=[41])))∧ac=h:=fun h=>by rw[←aq];exact aj h
      have X:Bn 0 (t.drop k)=if(t.drop (k+1)).take 1=[41]then .ok 2 else(Bn 0 (t.drop (k+1))).add 1:=(by rw[F];rfl);by_cases aa:(t.drop (k+1)).take 1=[41]
      ·rw[Ah aa]at X;rw[At aa]at W;have I:=Z X;have ar:=Z W;clear F O ap aq aa aj W X;go_wp2_with fail;refine(ar.out _).mono ?_;rintro e h ⟨rfl,rfl⟩;go_wp2_with fail;exact bodyPost_ret (GI (Gq L.out _ _ _ _) rfl) rfl ⟨by rw[←N.out,I.out];simp[BM,CL,Rs.add],Ma M.out (BL _) _ _ _ _⟩
      ·rw[U aa]at X;rw[Aq aa]at W;have I:=Z X;have ar:=Z W;clear F O ap aq aa aj W X;go_wp2_with fail;refine(ar.out _).mono ?_;rintro e h ⟨rfl,rfl⟩;go_wp2_with fail;go_roundw;case rel=>exact⟨0,k+1,rfl,by go_num,by omega,by omega,L.out,M.out,by rw[←N.out,I.out,Rs.add_add]⟩
       case measure=>simp[intOf];omega
    ·have a4:((b.toNat:Int)==41)=false:=Au (d:=41) ai;have I:=Z (show Bn o (t.drop k)=(Bn o (t.drop (k+1))).add 1 by rw[F];show(if b=40 then _ else if b≠41 then _ else _)=_;rw[U ah,Ah ai]);clear F O ah ai;go_wp2_with fail;go_roundw;case rel=>exact⟨o,k+1,rfl,by go_num,by omega,by omega,L.out,M.out,by rw[←N.out,I.out,Rs.add_add]⟩
     case measure=>simp[intOf];omega
   ·have aJ:decide ((k:Int)<(t.length:Int))=false:=Aq (by omega);have aK:R=.more:=by
     have:=N.out;rw[List.drop_eq_nil_of_le (by omega)]at this;cases o<;>exact this.symm
    subst aK;go_wp2_with fail;exact bodyPost_ret (GI (Gq L.out _ _ _ _) rfl) rfl ⟨by simp[BM,CL],Ma M.out (BL _) _ _ _ _⟩
theorem Ub (lv:Nat) (t:List UInt8) (q:Bool) (deep N:Nat) (w:World) (hs:t.length≤1000000) (F:0<t.length) (G: ¬Df q t=true):
  Calls Tryz.prog 88 #[sv t,.bool q,.int .i64 deep,.int .i64 N] w fun e w'=>e=.returned (BM N (Ac lv q t))∧w.grownBy w' none:=by
 have aj:=sz t;have ak:=Y.new w 108 #[.int .i64 0,.bool false,.bool false,.int .i64 0];have al:w.grownBy (w.alloc (.cells #[.int .i64 0,.bool false,.bool false,.int .i64 0] 108)) none:=AF (AB w none) _;have ae:=BC t 0 F;have am:(0:Int)<(t.length:Int):=(by omega);have an:t.isEmpty=false:=(by cases t with|nil=>exact Ai F (Nat.lt_irrefl _)|cons=>rfl);obtain⟨c,I⟩: ∃c,t[0]=c:=⟨_,rfl⟩;rw[I]at ae;have z:=fun e=>Di F I e
 have af:=fun a b (ag:t.take 2=[a,b])=>DI F I ag
 have O:=Bt q t;have J:=Z (fun w'=>Aa t [36,40] w' (by decide) (by omega));have K:=Z (fun w'=>Aa t [36,123] w' (by decide) (by omega));have W:=Z (fun w'=>Aa t [36,40,40] w' (by decide) (by omega));unfold sv at J K W;simp only[BP,List.length_nil,Nat.zero_add,Nat.reduceAdd]at J K W;have X:Ac lv q t=.ok 0:=(by cases lv<;>(unfold Ac;rw[U G]));rw[X];rw[O]at G;simp only[not_or,not_and]at G;obtain⟨aa,ab,ac,ad,L⟩:=G;have ao:((c.toNat:Int)==92)=false:=Au (d:=92) (fun e=>aa ((z 92).2 e));have ap:((c.toNat:Int)==96)=false:=Au (d:=96) (fun e=>ab ((z 96).2 e));have ways:q=true∨(q=false∧((c.toNat:Int)==39)=false∧((c.toNat:Int)==34)=false):=by
  cases q with
  |true=>exact .inl rfl
  |false=>exact .inr ⟨rfl,Au (d:=39) (fun e=>(L rfl).1 ((z 39).2 e)),Au (d:=34) (fun e=>(L rfl).2 ((z 34).2 e))⟩
 have ah:=Z (show∀h,Calls Tryz.prog 66 #[.string ⟨t.toArray⟩,.string ⟨#[36,40]⟩] h fun e M=>e=.returned (.bool false)∧M=h from fun h=>by have:=J.out h;rw[Aq ac]at this;exact this);have ai:=Z (show∀h,Calls Tryz.prog 66 #[.string ⟨t.toArray⟩,.string ⟨#[36,123]⟩] h fun e M=>e=.returned (.bool false)∧M=h from fun h=>by have:=K.out h;rw[Aq ad]at this;exact this);clear X z af O I aa ab ac ad L;rcases ways with rfl|⟨rfl,aq,ar⟩
 all_goals
  unfold sv;go_enter Tryz.func88,Tryz.ntmps88;go_wp2_with fail;refine(ah.out _).mono ?_;rintro e h ⟨rfl,rfl⟩;go_wp2_with fail;refine(ai.out _).mono ?_;rintro e h ⟨rfl,rfl⟩;go_wp2_with fail;exact bodyPost_ret (GI (Y.new w 108 _) rfl) rfl ⟨by simp[BM,CL],AF (AB w none) _⟩
theorem Rv (q:Bool) (deep h:Nat) (w:World):Calls Tryz.prog 88 #[sv [],.bool q,.int .i64 deep,.int .i64 h] w fun e w'=>e=.returned (BM h (.ok 0))∧w.grownBy w' none:=by
 have z:=Y.new w 108 #[.int .i64 0,.bool false,.bool false,.int .i64 0];have F:w.grownBy (w.alloc (.cells #[.int .i64 0,.bool false,.bool false,.int .i64 0] 108)) none:=AF (AB w none) _;exact Z2m
theorem VA: ∀lv,IZ lv:=by
 intro lv;induction lv with
 |zero=>
  intro t q deep z w G hs I;by_cases F:0<t.length
  ·by_cases K:Df q t=true
   ·have J:=fun e=>Di F rfl e
    rcases(Bt q t).1 K with h|h|h|h|⟨rfl,h|h⟩
    ·exact Vz t q deep z w G hs I F ((J 92).1 h)
    ·exact V6 t q deep z w G hs I F ((J 96).1 h)
    ·exact Uw t q deep z w G hs I F h
    ·exact Vl t q deep z w G hs I F h
    ·exact VM t deep z w G hs I F ((J 39).1 h)
    ·exact Vb t deep z w G hs I F ((J 34).1 h)
   ·exact Ub 0 t q deep z w hs F K
  ·obtain rfl:t=[]:=List.eq_nil_of_length_eq_zero (by omega);rw[LV];exact Rv q deep z w
 |succ lv ih=>
  intro t q deep z w G hs I;by_cases F:0<t.length
  ·by_cases K:Df q t=true
   ·have J:=fun e=>Di F rfl e
    rcases(Bt q t).1 K with h|h|h|h|⟨rfl,h|h⟩
    ·exact Vr lv ih t q deep z w G hs I F ((J 92).1 h)
    ·exact Uy lv ih t q deep z w G hs I F ((J 96).1 h)
    ·by_cases L:t.take 3=[36,40,40]
     ·exact Vx lv ih t q deep z w G hs I F L
     ·exact V9 lv ih t q deep z w G hs I F h L
    ·cases q with
     |true=>exact Sj lv ih t deep z w G hs I F h
     |false=>exact TG lv ih t deep z w G hs I F h
    ·exact Vf lv ih t deep z w G hs I F ((J 39).1 h)
    ·exact VC lv ih t deep z w G hs I F ((J 34).1 h)
   ·exact Ub (lv+1) t q deep z w hs F K
  ·obtain rfl:t=[]:=List.eq_nil_of_length_eq_zero (by omega);rw[LV];exact Rv q deep z w
end Go.Proofs.YtdhfhphbkfgamaaGreat.Lx
