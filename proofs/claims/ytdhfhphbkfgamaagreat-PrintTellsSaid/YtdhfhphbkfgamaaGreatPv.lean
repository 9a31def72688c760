/- PrintTells: a part of its proof. -/
import Derived.Test.YtdhfhphbkfgamaaGreatPl
import Derived.Test.YtdhfhphbkfgamaaGreatPu
import Derived.Test.YtdhfhphbkfgamaaGreatQa
set_option maxRecDepth 100000
set_option maxHeartbeats 64000000
namespace Go.Proofs.YtdhfhphbkfgamaaGreat
section
open Go.RowKit Lx
theorem PB (f:Nat) (h:Tr (fun ts=>El ts=true) 120 (core f) f):Qa 30 (Ak f) f:=
 TX f (fun d=>Fz (FB (FE (Ez (core f)) d))) (fun d=>KZ (He (Iy (F1 (ES f)) d)))
  (S9 f (fun d=>FB (FE (Ez (core f)) d)) (fun d=>He (Iy (F1 (ES f)) d))
   (TW f (FE (Ez (core f))) (fun d=>Iy (F1 (ES f)) d)
    (OD f (Ez (core f)) (F1 (ES f)) (NR f (core f) (ES f) h))))
theorem NN: ∀f,Tr (fun ts=>El ts=true) 120 (core f) f
 |0=>fun av base rb d ts ns w z h F _=>by have:=h.Aj.pos;omega
 |f+1=>UE f (Ak f) (KY f) (PB f (NN f))
theorem TY (f:Nat):Qa 30 (Ak f) f:=PB f (NN f)
theorem Lw (h z F:Nat) (w:World):CallsD Tryz.prog 28 #[.pointer (some ⟨h,0,none⟩),.pointer (some ⟨z,0,none⟩),.pointer (some ⟨F,0,none⟩)] .returning w fun e G w'=>e=.returned (.tuple #[])∧G=.returning∧w'=w:=by
 refine callsD_of_wpS Tryz.func28 rfl fun I K J=>?_
 apply wpS_seq;apply wpS_region;simp[wpOpsS,go_sem,recoverD,J,Tryz.ntmps28,Exit.thenS];simp only[Array.replicate_succ,Array.replicate_zero,List.push_toArray,List.append_toArray,List.nil_append,List.cons_append,BH,BF,BG];refine wpS_of_wp ?_;go_wp2
 refine⟨rfl,.returning,?_,_,results_none rfl _ _ _,rfl,rfl,rfl⟩;cases I;simp_all
def J2 (a e:Int):PanicEntry:= { v:=.iface 67 (.agg #[.int .i64 a,.int .i64 e]),recovered:=true }
theorem Mm (h z I:Nat) (a e x y:Int) (v:Value) (w:World) (W:Y w h 22 #[v]) (X:Y w z 3 #[.int .i64 x]) (aa:Y w I 44 #[.int .i64 y]):CallsD Tryz.prog 28 #[.pointer (some ⟨h,0,none⟩),.pointer (some ⟨z,0,none⟩),.pointer (some ⟨I,0,none⟩)] (.panicking [Fk a e]) w fun ax ay w'=>ax=.returned (.tuple #[])∧ay=.panicking [J2 a e]∧
  Y w' h 22 #[.slice none 0 0]∧Y w' z 3 #[.int .i64 a]∧Y w' I 44 #[.int .i64 e]∧Az (fun k=>k=h∨k=z∨k=I) w w':=by
 unfold Fk J2;have aM: ∀F:World,(Instr.typeAssert (.iface 67 (.agg #[.int .i64 a,.int .i64 e])) 20 67 true).run Tryz.prog F=.ok (.tuple #[.agg #[.int .i64 a,.int .i64 e],.bool true]) F:=fun _=>by kernel_rfl
 have ai:h≠z:=fun G=>Ai ((G▸W.AN).uniq X.AN) (by decide)
 have aj:h≠I:=fun G=>Ai ((G▸W.AN).uniq aa.AN) (by decide)
 have ak:z≠I:=fun G=>Ai ((G▸X.AN).uniq aa.AN) (by decide)
 have al:=Z W;have am:=Z X;have az:=Z aa;clear W X aa;refine callsD_of_wpS Tryz.func28 rfl fun aN aO aA=>?_
 apply wpS_seq;apply wpS_region;simp[wpOpsS,go_sem,recoverD,aA,Tryz.ntmps28,Exit.thenS];simp only[Array.replicate_succ,Array.replicate_zero,List.push_toArray,List.append_toArray,List.nil_append,List.cons_append,BH,BF,BG];refine wpS_of_wp ?_;go_wp2_with fail;have K:=al.out.alloc (.cells #[.int .i64 a,.int .i64 e] 67);have L:=am.out.alloc (.cells #[.int .i64 a,.int .i64 e] 67);have M:=az.out.alloc (.cells #[.int .i64 a,.int .i64 e] 67);have N:=Y.new w 67 #[.int .i64 a,.int .i64 e];have ad:Az (fun k=>k=h∨k=z∨k=I) w (w.alloc (.cells #[.int .i64 a,.int .i64 e] 67)):=(Az.refl _ w).alloc _;have an:w.heap.size≠h:=(by have:=Y.lt al.out;omega);have ao:w.heap.size≠z:=(by have:=Y.lt am.out;omega);generalize w.alloc (.cells #[.int .i64 a,.int .i64 e] 67)=F at K L M N ad⊢;obtain⟨O,ap⟩: ∃O,w.heap.size=O:=⟨_,rfl⟩;rw[ap]at N an ao⊢;have aB:=Z (Y.Bl K (Az.refl D4 F|>.drew) (fun G=>G));have K3:=Z (Y.Bl L (Az.refl D4 F|>.drew) (fun G=>G));have aC:=Z (Y.Bl M (Az.refl D4 F|>.drew) (fun G=>G));have aD:=Z (Y.Bl N (Az.refl D4 F|>.drew) (fun G=>G));have aE:=Z (ad.drew);have aF:F.cell? ⟨O,0,none⟩=some (.int .i64 a):=Y.cell N 0;have aG:F.cell? ⟨O,1,none⟩=some (.int .i64 e):=Y.cell N 1;have aP:F.cell? ⟨h,0,none⟩=some v:=Y.cell K 0;have c3:F.cell? ⟨z,0,none⟩=some (.int .i64 x):=Y.cell L 0;have c4:F.cell? ⟨I,0,none⟩=some (.int .i64 y):=Y.cell M 0;have aQ:=Y.frozen K 0;have z3:=Y.frozen L 0;have aR:=Y.frozen M 0;have aS:=Y.lt K;have aT:=Y.lt L;have aU:=Y.lt M;clear K L M N ad ap;refine Cs [0,1,2,3] [4,5,6] (by kernel_rfl) (by kernel_rfl) (fun aq=>aq.cell? ⟨O,0,none⟩=some (.int .i64 a)∧aq.cell? ⟨O,1,none⟩=some (.int .i64 e)) ⟨aF,aG⟩ ?_;simp only[pick,List.getElem?_cons_zero,List.getElem?_cons_succ];refine AQ ?_ (by rfl) ?_ ?_;rotate_left
 ·(intro ae J;obtain⟨af,ag⟩:=J;go_simp;try with_reducible rfl)
 simp only[Act.put,BH,BF,BG];refine AQ ?_ (by rfl) ?_ ?_;rotate_left
 ·(intro ae J;obtain⟨af,ag⟩:=J;go_simp;try with_reducible rfl)
 simp only[Act.put,BH,BF,BG];refine AQ ?_ (by rfl) ?_ ?_;rotate_left
 ·(intro ae J;obtain⟨af,ag⟩:=J;go_simp;try with_reducible rfl)
 simp only[Act.put,BH,BF,BG];refine AQ ?_ (by rfl) ?_ ?_;rotate_left
 ·(intro ae J;obtain⟨af,ag⟩:=J;go_simp;try with_reducible rfl)
 simp only[Act.put,BH,BF,BG];refine CP ?_;refine Ae fun aH ar=>?_
 refine step_skip (F.drew.setCell ⟨h,0,none⟩ (.slice none 0 0)) (by rfl) (by go_simp) ?_;have ah:=Z (Y.Be aD.out (p:=⟨h,0,none⟩) an (.slice none 0 0));refine ar.out _ _ ⟨Y.cell ah.out 0,Y.cell ah.out 1⟩ ?_;simp only[Act.put,BH,BF,BG];refine Ae fun aI au=>?_
 have ab:=Y.Be K3.out (p:=⟨h,0,none⟩) (Ne.symm ai) (.slice none 0 0);have aV:(F.drew.setCell ⟨h,0,none⟩ (.slice none 0 0)).cell? ⟨z,0,none⟩=some (.int .i64 x):=Y.cell ab 0;have aW:=Y.frozen ab 0;have aX:=Y.lt ab;refine step_skip ((F.drew.setCell ⟨h,0,none⟩ (.slice none 0 0)).setCell ⟨z,0,none⟩ (.int .i64 a)) (by rfl) (by go_simp) ?_;have aw:=Z (Y.Be ah.out (p:=⟨z,0,none⟩) ao (.int .i64 a));refine au.out _ _ ⟨Y.cell aw.out 0,Y.cell aw.out 1⟩ ?_;simp only[Act.put,BH,BF,BG];refine CN ?_;have ac:=Y.Be (Y.Be aC.out (p:=⟨h,0,none⟩) (Ne.symm aj) (.slice none 0 0)) (p:=⟨z,0,none⟩) (Ne.symm ak) (.int .i64 a);have aY:((F.drew.setCell ⟨h,0,none⟩ (.slice none 0 0)).setCell ⟨z,0,none⟩ (.int .i64 a)).cell? ⟨I,0,none⟩=some (.int .i64 y):=Y.cell ac 0;have aZ:=Y.frozen ac 0;have a0:=Y.lt ac;have aJ:=Z (Y.Be (Y.Be (Y.AV aB.out 0 (.slice none 0 0)) (p:=⟨z,0,none⟩) ai (.int .i64 a)) (p:=⟨I,0,none⟩) aj (.int .i64 e));have aK:=Z (Y.Be (Y.AV ab 0 (.int .i64 a)) (p:=⟨I,0,none⟩) ak (.int .i64 e));have aL:=Z (Y.AV ac 0 (.int .i64 e));have RC:=Z (((aE.out.setCell (p:=⟨h,0,none⟩) (.inl (.inl rfl)) (.slice none 0 0)).setCell (p:=⟨z,0,none⟩) (.inl (.inr (.inl rfl))) (.int .i64 a)).setCell (p:=⟨I,0,none⟩) (.inl (.inr (.inr rfl))) (.int .i64 e));clear ar au aH aI;go_wp2
 refine NoPanic.normal ?_;go_wp2
 refine⟨rfl,_,rfl,_,results_none rfl _ _ _,rfl,rfl,aJ.out,aK.out,aL.out,RC.out⟩
end
section
open Go.RowKit Lx
def Er (w:World) (p:Ps) (e:Ending) (w':World):Prop:= ∃v,e=.returned (.tuple #[v,.int .i64 p.a,.int .i64 p.e])∧Cm (fun k=>k<w.heap.size) w' v p.ns∧(∀b,v.ownBlock=some b→w.heap.size≤b)∧w.grownBy w' none
theorem Fb {w:World} {a b c:Nat} {v x y:Value} (z:w.cell? ⟨a,0,none⟩=some v) (F:w.cell? ⟨b,0,none⟩=some x) (G:w.cell? ⟨c,0,none⟩=some y) {h:Array Value} (I:h.getD 2 undef=.pointer (some ⟨a,0,none⟩)) (J:h.getD 3 undef=.pointer (some ⟨b,0,none⟩)) (K:h.getD 4 undef=.pointer (some ⟨c,0,none⟩)):
  (results Tryz.f12 h).run Tryz.prog w=.ok (.tuple #[v,x,y]) w:=by
 have L:h[2]?.getD undef=.pointer (some ⟨a,0,none⟩):=(by simpa using I);have M:h[3]?.getD undef=.pointer (some ⟨b,0,none⟩):=(by simpa using J);have N:h[4]?.getD undef=.pointer (some ⟨c,0,none⟩):=(by simpa using K);simp[results,Tryz.results12,go_sem,L,M,N,z,F,G]
structure P3 (w W:World) (v:Value) (x y:Int):Prop where
 b2:Y W w.heap.size 22 #[v]
 b3:Y W (w.heap.size+1) 3 #[.int .i64 x]
 b4:Y W (w.heap.size+1+1) 44 #[.int .i64 y]
 gr:w.grownBy W none
section
variable {w W W':World} {v u:Value} {x y:Int}
theorem P3.start (w:World):P3 w (((w.alloc (.cells #[.slice none 0 0] 22)).alloc (.cells #[.int .i64 0] 3)).alloc (.cells #[.int .i64 0] 44)) (.slice none 0 0) 0 0:=by
 refine⟨((Y.new w 22 _).alloc _).alloc _,?_,?_,AF (AF (AF (AB w none) _) _) _⟩
 ·have:=(Y.new (w.alloc (.cells #[.slice none 0 0] 22)) 3 #[.int .i64 0]).alloc (.cells #[.int .i64 0] 44);rwa [World.size_alloc]at this
 ·have:=Y.new ((w.alloc (.cells #[.slice none 0 0] 22)).alloc (.cells #[.int .i64 0] 3)) 44 #[.int .i64 0];rwa [World.size_alloc,World.size_alloc]at this
theorem P3.grown (h:P3 w W v x y) (z:W.grownBy W' none):P3 w W' v x y:=⟨Y.grown h.b2 z (by simp),Y.grown h.b3 z (by simp),Y.grown h.b4 z (by simp),AI h.gr z⟩
theorem P3.fr (h:P3 w W v x y) (z:Fr (fun k=>w.heap.size≤k) W W'):P3 w W' v x y:=
 ⟨z.BD h.b2 (by decide) (by decide),z.BD h.b3 (by decide) (by decide),z.BD h.b4 (by decide) (by decide),Az.grown (Az.trans (Az.AL h.gr (fun _ h=>by cases h):Az D4 w W) z fun i F hs=>Ai hs.1 (by omega)) (fun _ _ h=>h)⟩
theorem P3.Bl (h:P3 w W v x y) (z:Az (fun k=>k=w.heap.size∨k=w.heap.size+1∨k=w.heap.size+1+1) W W'):w.grownBy W' none:=
 Az.grown (Az.trans (Az.AL h.gr (fun _ h=>by cases h):Az D4 w W) z fun i F hs=>by exfalso;omega) (fun _ _ h=>h)
theorem P3.QE (h:P3 w W v x y) (u:Value):P3 w (W.setCell ⟨w.heap.size,0,none⟩ u) u x y:=
 ⟨Y.AV h.b2 0 u,Y.Be h.b3 (p:=⟨w.heap.size,0,none⟩) (by show w.heap.size+1≠w.heap.size;omega) _,Y.Be h.b4 (p:=⟨w.heap.size,0,none⟩) (by show w.heap.size+1+1≠w.heap.size;omega) _,Af h.gr (p:=⟨w.heap.size,0,none⟩) (BL _) _⟩
theorem P3.OE (h:P3 w W v x y) (a:Int):P3 w (W.setCell ⟨w.heap.size+1,0,none⟩ (.int .i64 a)) v a y:=
 ⟨Y.Be h.b2 (p:=⟨w.heap.size+1,0,none⟩) (by show w.heap.size≠w.heap.size+1;omega) _,Y.AV h.b3 0 _,Y.Be h.b4 (p:=⟨w.heap.size+1,0,none⟩) (by show w.heap.size+1+1≠w.heap.size+1;omega) _,Af h.gr (p:=⟨w.heap.size+1,0,none⟩) (by show w.heap.size≤w.heap.size+1;omega) _⟩
theorem P3.PO (h:P3 w W v x y) (a:Int):P3 w (W.setCell ⟨w.heap.size+1+1,0,none⟩ (.int .i64 a)) v x a:=
 ⟨Y.Be h.b2 (p:=⟨w.heap.size+1+1,0,none⟩) (by show w.heap.size≠w.heap.size+1+1;omega) _,Y.Be h.b3 (p:=⟨w.heap.size+1+1,0,none⟩) (by show w.heap.size+1≠w.heap.size+1+1;omega) _,Y.AV h.b4 0 _,Af h.gr (p:=⟨w.heap.size+1+1,0,none⟩) (by show w.heap.size≤w.heap.size+1+1;omega) _⟩
theorem P3.cells (h:P3 w W v x y):W.cell? ⟨w.heap.size,0,none⟩=some v∧W.cell? ⟨w.heap.size+1,0,none⟩=some (.int .i64 x)∧W.cell? ⟨w.heap.size+1+1,0,none⟩=some (.int .i64 y)∧w.heap.size<W.heap.size∧w.heap.size+1<W.heap.size∧w.heap.size+1+1<W.heap.size∧W.frozen? ⟨w.heap.size,0,none⟩=false∧W.frozen? ⟨w.heap.size+1,0,none⟩=false∧W.frozen? ⟨w.heap.size+1+1,0,none⟩=false:=
 ⟨Y.cell h.b2 0,Y.cell h.b3 0,Y.cell h.b4 0,Y.lt h.b2,Y.lt h.b3,Y.lt h.b4,Y.frozen h.b2 0,Y.frozen h.b3 0,Y.frozen h.b4 0⟩
theorem Cm.three {ns:List V} (z:P3 w W u x y) (I:Cm (fun k=>k<w.heap.size+3) W v ns) (a b c:Value):Cm (fun k=>k<w.heap.size) (((W.setCell ⟨w.heap.size,0,none⟩ a).setCell ⟨w.heap.size+1,0,none⟩ b).setCell ⟨w.heap.size+1+1,0,none⟩ c) v ns:=by
 have G:Az (fun k=>k=w.heap.size∨k=w.heap.size+1∨k=w.heap.size+1+1) W (((W.setCell ⟨w.heap.size,0,none⟩ a).setCell ⟨w.heap.size+1,0,none⟩ b).setCell ⟨w.heap.size+1+1,0,none⟩ c):=
  (((Az.refl _ W).setCell (p:=⟨w.heap.size,0,none⟩) (.inl (.inl rfl)) a).setCell (p:=⟨w.heap.size+1,0,none⟩) (.inl (.inr (.inl rfl))) b).setCell (p:=⟨w.heap.size+1+1,0,none⟩) (.inl (.inr (.inr rfl))) c
 obtain⟨J,h,K⟩:=I;have L: ∀k,k<w.heap.size→k<w.heap.size+3:=fun k hk=>by omega
 refine⟨J,h.Bl G (fun g F e=>?_),fun i M=>?_⟩
 ·rcases e with rfl|rfl|rfl
  ·exact Ai ((Own.AN h F).uniq z.b2.AN) (by decide)
  ·exact Ai ((Own.AN h F).uniq z.b3.AN) (by decide)
  ·exact Ai ((Own.AN h F).uniq z.b4.AN) (by decide)
 ·obtain⟨p,q,r,s,t,e,N⟩:=K i M;refine⟨p,q,r,s,t,e,(Bi.Bl G (fun k hk=>?_) N).mono L⟩;show k<w.heap.size+3;omega
theorem CM.start {F:Nat} {ts:List AX} (h:Vg F ts) (M:F≤4096) (G:w.heap.size≤W.heap.size) (I:Own W 69 3 v ts.length (JK ts) 0):CM (fun k=>k<w.heap.size+3) (fun k=>w.heap.size≤k) (W.alloc (.cells #[v,.slice none 0 0,.int .i64 0] 65)) W.heap.size ts [] 0:=by
 refine⟨v,.slice none 0 0,Y.new W 65 _,I.alloc _,Cm.nil _ _,fun b J=>(by cases J),⟨G,fun k hk=>?_⟩,h.Aj,?_,by omega,fun t K=>?_⟩
 ·rw[World.size_alloc]at hk;show w.heap.size≤k;omega
 ·have:=h.len;simp only[List.length_nil];omega
 ·rcases h.w t K with⟨z,L,_⟩|z
  ·exact⟨by rw[L];simp,fun e=>by omega⟩
  ·exact⟨z.len,z.io⟩
end
def MI (ts:List AX) (T:List AX):Ps:=match T with
 |[]=>⟨[],0,0⟩
 |t::r=>if t.k=4 then⟨[],0,0⟩else match Ak ts.length 0 (t::r) []with
  | .bad a e=>⟨[],a,e⟩
  | .ok _ ts ns=>match ts with
   |[]=>⟨[],0,0⟩
   |u::_=>if u.k≠4 then⟨[],u.a,17⟩else if 300<ns.length then⟨[],0,12⟩else⟨ns,0,0⟩
theorem QZ (ts:List AX):Io ts=MI ts (AG ts):=rfl
theorem Z1b {P:Prop} (h:P:=by
 refine leaves_cons (f:=28) (args:=#[.pointer (some ⟨w.heap.size,0,none⟩),.pointer (some ⟨w.heap.size+1,0,none⟩),.pointer (some ⟨w.heap.size+1+1,0,none⟩)]) (by simp[settle]) (by simp[go_sem]) ?_;refine(Lw _ _ _ _).mono ?_;rintro e am bk ⟨rfl,rfl,rfl⟩;simp[Leaves,settle];exact⟨_,Fb (Y.cell h.out.b2 0) (Y.cell h.out.b3 0) (Y.cell h.out.b4 0) rfl rfl rfl,by rw[F.out];exact⟨_,rfl,Cm.nil _ _,fun b G=>(by cases G),h.out.gr⟩⟩):P:=h
theorem Z1c {P:Prop} (h:P:=by
 simp[Leaves,settle,J2];exact⟨_,Fb (Y.cell aQ 0) (Y.cell aR 0) (Y.cell ad 0) rfl rfl rfl,by rw[F.out];exact⟨_,rfl,Cm.nil _ _,fun b G=>(by cases G),aT⟩⟩):P:=h
theorem Lf (s:List UInt8) (w:World) (aW:s.length≤9223372036854775807):Calls Tryz.prog 12 #[sv s] w (Er w (B9 s)):=by
 have bW: ∀(fn:Fn) (first au:Array Value) (w:World),(Instr.makeFunc fn first au).run Tryz.prog w=.ok (.func fn first au) w:=fun _ _ _ _=>rfl
 have af:=Z (fun W=>Sx s W aW);have aX:=Z (P3.start w);obtain⟨R,aw⟩: ∃R,B9 s=R:=⟨_,rfl⟩;rw[aw];have ax:=Z (show R=(match Fp s with| .err a e=>⟨[],a,e⟩| .ok ts=>Io ts)from aw.symm);obtain⟨ay,az⟩: ∃ay,Fp s=ay:=⟨_,rfl⟩;rw[az]at af ax;have aY:=Z az;unfold Er sv at*;clear aw az aW;cases ay with
 |err a e=>
  have aZ:=Z (UP aY.out);have bX:(e !=0)=true:=(by rw[bne_iff_ne];exact aZ.out.1);have bY:(e==0)=false:=(by rw[beq_eq_false_iff_ne];exact aZ.out.1);unfold DK at af;go_enter_defers Tryz.func12,Tryz.ntmps12
  go_wp2_with fail;refine(af.out _).mono ?_;rintro ac aA ⟨rfl,ag⟩;have J:=aX.out.grown ag;obtain⟨L,c3,c4,M,N,O,X,z3,aa⟩:=P3.cells J;have K:=Z ((J.OE a).PO e);clear ag J;go_upto_region 3 with(fail);obtain⟨W,a0⟩: ∃W,(aA.setCell ⟨w.heap.size+1,0,none⟩ (.int .i64 a)).setCell ⟨w.heap.size+1+1,0,none⟩ (.int .i64 e)=W:=⟨_,rfl⟩;rw[a0]at K⊢;clear a0 L c3 c4 M N O X z3 aa;have aB:=K.out.grown (Ag (AB W none));obtain⟨L,c3,c4,M,N,O,X,z3,aa⟩:=P3.cells K.out;have z:=Z ((((K.out.QE (.slice none 0 0)).OE a).PO e).grown (Ag (AB _ none)));have aC:=(aB.QE (.slice none 0 0)).cells;have aD:=((aB.QE (.slice none 0 0)).OE a).cells;refine Cs [0,1] [2,3,4] (by kernel_rfl) (by kernel_rfl) (fun W'=>W'.cell? ⟨w.heap.size+1,0,none⟩=some (.int .i64 a)∧W'.cell? ⟨w.heap.size+1+1,0,none⟩=some (.int .i64 e)) ⟨c3,c4⟩ ?_;simp only[pick,List.getElem?_cons_zero,List.getElem?_cons_succ];refine AQ ?_ (by rfl) ?_ ?_;rotate_left
  ·(intro ah aE;obtain⟨bs,bt⟩:=aE;go_simp;try with_reducible rfl)
  simp only[Act.put,BH,BF,BG];refine AQ ?_ (by rfl) ?_ ?_;rotate_left
  ·(intro ah aE;obtain⟨bs,bt⟩:=aE;go_simp;try with_reducible rfl)
  simp only[Act.put,BH,BF,BG];refine CP ?_;refine Ae fun bu a1=>?_
  refine step_skip (W.drew.setCell ⟨w.heap.size,0,none⟩ (.slice none 0 0)) (by rfl) (by go_simp) ?_;refine a1.out _ _ ⟨aC.2.1,aC.2.2.1⟩ ?_;simp only[Act.put,BH,BF,BG];refine Ae fun bv a2=>?_
  refine step_skip ((W.drew.setCell ⟨w.heap.size,0,none⟩ (.slice none 0 0)).setCell ⟨w.heap.size+1,0,none⟩ (.int .i64 a)) (by rfl) (by go_simp) ?_;refine a2.out _ _ ⟨aD.2.1,aD.2.2.1⟩ ?_;simp only[Act.put,BH,BF,BG];refine CN ?_;clear a1 a2 bu bv aB aC aD;go_wp2
  refine NoPanic.normal ?_;go_wp2_with fail;have F:=Z (show R=⟨[],a,e⟩from ax.out);generalize (((W.setCell ⟨w.heap.size,0,none⟩ (.slice none 0 0)).setCell ⟨w.heap.size+1,0,none⟩ (.int .i64 a)).setCell ⟨w.heap.size+1+1,0,none⟩ (.int .i64 e)).drew=ah at z⊢;rw[F.out];simp[Leaves,settle,bodyPostD];exact⟨_,Fb (Y.cell z.out.b2 0) (Y.cell z.out.b3 0) (Y.cell z.out.b4 0) rfl rfl rfl,⟨_,rfl,Cm.nil _ _,fun b G=>(by cases G),z.out.gr⟩⟩
 |ok ts=>
  obtain⟨a3,a4⟩:=Gs aY.out;have a5:=Z a4;have bw:=Z a3;unfold DK at af;have aF:=Z (show R=MI ts (AG ts)from ax.out);clear a3 a4;go_enter_defers Tryz.func12,Tryz.ntmps12
  go_wp2_with fail;refine(af.out _).mono ?_;rintro ac aA ⟨⟨v,rfl,aG,aH⟩,ag⟩;have J:=aX.out.grown ag;obtain⟨L,c3,c4,M,N,O,X,z3,aa⟩:=P3.cells J;have K:=Z ((J.OE 0).PO 0);have a6:=Z (Own.Be (p:=⟨w.heap.size+1+1,0,none⟩) (Own.Be (p:=⟨w.heap.size+1,0,none⟩) aG (fun e=>by have:=aH _ e;rw[World.size_alloc,World.size_alloc,World.size_alloc]at this;simp at this;omega) (.int .i64 0)) (fun e=>by have:=aH _ e;rw[World.size_alloc,World.size_alloc,World.size_alloc]at this;simp at this;omega) (.int .i64 0));obtain⟨bx,bz,rfl,_,_⟩:=Own.form aG;clear ag J aG aH;go_upto_region 4 with(fail);obtain⟨al,a7⟩: ∃al,(aA.setCell ⟨w.heap.size+1,0,none⟩ (.int .i64 0)).setCell ⟨w.heap.size+1+1,0,none⟩ (.int .i64 0)=al:=⟨_,rfl⟩;rw[a7]at K a6⊢;clear a7 L c3 c4 M N O X z3 aa;obtain⟨rb,aI⟩: ∃rb,al.heap.size=rb:=⟨_,rfl⟩;have a8:=Z (CM.start a5.out bw.out K.out.gr.size a6.out);have bZ:=Z aI;rw[aI]at a8;have bA:=Z (K.out.grown (AF (AB al none) (.cells #[.slice bx ts.length bz,.slice none 0 0,.int .i64 0] 65)));have aJ:=Z (GV a8.out);have aK:=Ad a5.out.Aj;obtain⟨T,a9⟩: ∃T,AG ts=T:=⟨_,rfl⟩;rw[a9]at aJ aF aK;have a':=Z aK;unfold Al Ch at aJ;clear a9 aK;go_wp2_with fail;refine aJ.out.mono ?_;rintro e ba ⟨v,rfl,rfl,bb,bc⟩;have z:=Z (P3.fr bA.out bc);have bd:=Z bb;clear bb bc aI;obtain⟨b0,b1,t,r,g,b5,au,rfl,rfl,be,bB,bC,bD,bE,lb,bf,bF,bG⟩:=bd.out.head;have aL:=Z (TY ts.length (fun k=>k<w.heap.size+3) (fun k=>w.heap.size≤k) rb 0 (t::r) [] ba (fun k hk=>by have J:=Y.lt z.out.b4;have b6:k<w.heap.size+3:=hk;omega) bd.out a'.out.2);have bg:(0:Int)<(((t::r).length:Nat):Int):=(by simp only[BP];omega);obtain⟨bh,bi⟩: ∃bh,(t::r).length=bh:=⟨_,rfl⟩;rw[bi]at bf bg be;clear bi bG;by_cases hk:t.k=4
  ·have F:=Z (show R=⟨[],0,0⟩from aF.out.trans (by show(if t.k=4 then _ else _)=_;rw[Ah hk]));have bj:((t.k:Int)==4)=true:=(by rw[beq_iff_eq];omega);obtain⟨L,c3,c4,M,N,O,X,z3,aa⟩:=P3.cells z.out;have h:=Z (((z.out.QE (.slice none 0 0)).OE 0).PO 0);clear hk;go_wp2_with fail;generalize ((ba.setCell ⟨w.heap.size,0,none⟩ (.slice none 0 0)).setCell ⟨w.heap.size+1,0,none⟩ (.int .i64 0)).setCell ⟨w.heap.size+1+1,0,none⟩ (.int .i64 0)=ah at h⊢;exact Z1b
  ·have aM:=Z (show R=(match Ak ts.length 0 (t::r) []with
    | .bad a e=>⟨[],a,e⟩
    | .ok _ ts ns=>match ts with
     |[]=>⟨[],0,0⟩
     |u::_=>if u.k≠4 then⟨[],u.a,17⟩else if 300<ns.length then⟨[],0,12⟩else⟨ns,0,0⟩)from aF.out.trans (by show(if t.k=4 then _ else _)=_;rw[U hk]))
   have bj:((t.k:Int)==4)=false:=(by rw[beq_eq_false_iff_ne];omega);obtain⟨aN,aO⟩: ∃aN,Ak ts.length 0 (t::r) []=aN:=⟨_,rfl⟩;rw[aO]at aL aM;have b7:=Z (fun x bH bI e=>KY ts.length 0 (t::r) [] x bH bI a'.out.1 (aO.trans e));unfold Al CZ at aL;clear hk aO;go_wp2_with fail;refine aL.out.mono ?_;cases aN with
   |bad a e=>
    have F:=Z (show R=⟨[],a,e⟩from aM.out);rintro ac aP ⟨rfl,an⟩;have ao:=P3.fr z.out an;refine leaves_cons (f:=28) (args:=#[.pointer (some ⟨w.heap.size,0,none⟩),.pointer (some ⟨w.heap.size+1,0,none⟩),.pointer (some ⟨w.heap.size+1+1,0,none⟩)]) (by simp) (by simp[go_sem]) ?_;refine(Mm _ _ _ a e _ _ _ _ ao.b2 ao.b3 ao.b4).mono ?_;rintro ac am bJ ⟨rfl,rfl,aQ,aR,ad,aS⟩;have aT:=P3.Bl ao aS;exact Z1c
   |ok x b8 ab=>
    rintro ac aP ⟨v,rfl,rfl,bl,an⟩;have ae:=Z (P3.fr z.out an);have bm:=Z bl;clear bl an bC bD bE lb bf bF bB be bg bj;obtain⟨b9,b',u,ad,ca,cb,cc,rfl,rfl,bK,cd,ce,cf,cg,ch,bL,bM,ap⟩:=bm.out.head;have bN:=Z (O7 bm.out);have bn:=Z (show R=if u.k≠4 then⟨[],u.a,17⟩else if 300<ab.length then⟨[],0,12⟩else⟨ab,0,0⟩from aM.out);have bO:(0:Int)<(((u::ad).length:Nat):Int):=(by simp only[BP];omega);have bP:=Z ap.Mo;have bQ:=Z ap.new;obtain⟨ci,bo,_⟩:=ap.Mo;obtain⟨ai,aj,rfl,_,_⟩:=Own.form bo;obtain⟨I,aU⟩: ∃I,ab.length=I:=⟨_,rfl⟩;have aq:=Z aU;rw[aU]at bM;obtain⟨bp,bq⟩: ∃bp,(u::ad).length=bp:=⟨_,rfl⟩;rw[bq]at bL bO bK;clear bq ap bo aU;by_cases ak:u.k=4
    ·have bR:((u.k:Int) !=4)=false:=(by rw[bne_eq_false_iff_eq];omega);have br:=Z (show R=if 300<ab.length then⟨[],0,12⟩else⟨ab,0,0⟩from bn.out.trans (U (by simpa using ak)));clear ak;by_cases cj:300<I
     ·have F:=Z (show R=⟨[],0,12⟩from br.out.trans (Ah (by have:=aq.out;omega)));have bS:decide ((300:Int)<(I:Int))=true:=At (by omega);obtain⟨L,c3,c4,M,N,O,X,z3,aa⟩:=P3.cells ae.out;have h:=Z (((ae.out.QE (.slice none 0 0)).OE 0).PO 12);go_wp2_with fail;generalize ((aP.setCell ⟨w.heap.size,0,none⟩ (.slice none 0 0)).setCell ⟨w.heap.size+1,0,none⟩ (.int .i64 0)).setCell ⟨w.heap.size+1+1,0,none⟩ (.int .i64 12)=ah at h⊢;exact Z1b
     ·have F:=Z (show R=⟨ab,0,0⟩from br.out.trans (U (by have:=aq.out;omega)));have bS:decide ((300:Int)<(I:Int))=false:=Aq (by omega);obtain⟨L,c3,c4,M,N,O,X,z3,aa⟩:=P3.cells ae.out;have h:=Z (((ae.out.QE (.slice ai I aj)).OE 0).PO 0);have bT:=Z (show∀b,(Value.slice ai I aj).ownBlock=some b→w.heap.size≤b by have:=bQ.out;rw[aq.out]at this;exact this);have aV:=Z (Cm.three (v:=.slice ai ab.length aj) ae.out bP.out (.slice ai I aj) (.int .i64 0) (.int .i64 0));rw[aq.out]at aV;go_wp2_with fail;generalize ((aP.setCell ⟨w.heap.size,0,none⟩ (.slice ai I aj)).setCell ⟨w.heap.size+1,0,none⟩ (.int .i64 0)).setCell ⟨w.heap.size+1+1,0,none⟩ (.int .i64 0)=ah at h aV⊢;refine leaves_cons (f:=28) (args:=#[.pointer (some ⟨w.heap.size,0,none⟩),.pointer (some ⟨w.heap.size+1,0,none⟩),.pointer (some ⟨w.heap.size+1+1,0,none⟩)]) (by simp[settle]) (by simp[go_sem]) ?_;refine(Lw _ _ _ _).mono ?_;rintro e am bk ⟨rfl,rfl,rfl⟩;simp[Leaves,settle];exact⟨_,Fb (Y.cell h.out.b2 0) (Y.cell h.out.b3 0) (Y.cell h.out.b4 0) rfl rfl rfl,by rw[F.out];exact⟨_,rfl,aV.out,bT.out,h.out.gr⟩⟩
    ·have bR:((u.k:Int) !=4)=true:=(by rw[bne_iff_ne];omega);have F:=Z (show R=⟨[],u.a,17⟩from bn.out.trans (Ah ak));have bU:=Z ak;clear ak;go_wp2_with fail;refine bN.out.mono ?_;rintro ac ck ⟨rfl,bV⟩;have ar:=ae.out.grown bV;rw[U bU.out];refine leaves_cons (f:=28) (args:=#[.pointer (some ⟨w.heap.size,0,none⟩),.pointer (some ⟨w.heap.size+1,0,none⟩),.pointer (some ⟨w.heap.size+1+1,0,none⟩)]) (by simp) (by simp[go_sem]) ?_;refine(Mm _ _ _ u.a 17 _ _ _ _ ar.b2 ar.b3 ar.b4).mono ?_;rintro ac am bJ ⟨rfl,rfl,aQ,aR,ad,aS⟩;have aT:=P3.Bl ar aS;exact Z1c
end
end Go.Proofs.YtdhfhphbkfgamaaGreat
