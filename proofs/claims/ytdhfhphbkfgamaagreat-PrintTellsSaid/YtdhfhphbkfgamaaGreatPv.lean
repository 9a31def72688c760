/- A part. -/
import Derived.Test.YtdhfhphbkfgamaaGreatPl
import Derived.Test.YtdhfhphbkfgamaaGreatPu
import Derived.Test.YtdhfhphbkfgamaaGreatQa
set_option maxRecDepth 100000
set_option linter.all false
set_option maxHeartbeats 0
namespace Go.Proofs.YtdhfhphbkfgamaaGreat
open Go.RowKit Lx Proofs.Tryz
theorem PH(f:Nat)(h:Ul (fun ts=>E7 ts=true) 120 (core f) f):RG 30 (Al f) f:=
 Ug f (fun d=>GV (FM (FW (FI (core f)) d))) (fun d=>LW (IJ (JV (GO (Ep f)) d)))
  (Ud f (fun d=>FM (FW (FI (core f)) d)) (fun d=>IJ (JV (GO (Ep f)) d))
   (TM f (FW (FI (core f))) (fun d=>JV (GO (Ep f)) d)
    (Oi f (FI (core f)) (GO (Ep f)) (NC f (core f) (Ep f) h))))
theorem M7:∀f,Ul (fun ts=>E7 ts=true) 120 (core f) f
 |0=>fun av base rb d ts ns w z h F _=>by have:=h.Ak.pos;omega
 |f+1=>UO f (Al f) (Ko f) (PH f (M7 f))
theorem TU(f:Nat):RG 30 (Al f) f:=PH f (M7 f)
theorem M1(h z F:Nat)(w:World):CallsD prog 28 #[.pointer (some ⟨h,0,none⟩),.pointer (some ⟨z,0,none⟩),.pointer (some ⟨F,0,none⟩)] .returning w fun e G w'=>e=.returned (.tuple #[])/\G=.returning/\w'=w:=by
 refine callsD_of_wpS func28 rfl fun I K J=>?_
 apply wpS_seq;apply wpS_region;simp[wpOpsS,go_sem,recoverD,J,ntmps28,Exit.thenS];simp only[Array.replicate_succ,Array.replicate_zero,List.push_toArray,List.append_toArray,List.nil_append,List.cons_append,BH,BI,BJ];refine wpS_of_wp ?_;go_wp2
 refine⟨rfl,.returning,?_,_,results_none rfl _ _ _,rfl,rfl,rfl⟩;cases I;simp_all
def Kk(a e:Int):PanicEntry:= { v:=.iface 67 (.agg #[.int .i64 a,.int .i64 e]),recovered:=true }
theorem Ny(h z I:Nat)(a e x y:Int)(v:Value)(w:World)(O:Y w h 22 #[v])(W:Y w z 3 #[.int .i64 x])(X:Y w I 44 #[.int .i64 y]):CallsD prog 28 #[.pointer (some ⟨h,0,none⟩),.pointer (some ⟨z,0,none⟩),.pointer (some ⟨I,0,none⟩)] (.panicking [GF a e]) w fun ax ay w'=>ax=.returned (.tuple #[])/\ay=.panicking [Kk a e]/\
  Y w' h 22 #[.slice none 0 0]/\Y w' z 3 #[.int .i64 a]/\Y w' I 44 #[.int .i64 e]/\Az (fun k=>k=h\/k=z\/k=I) w w':=by
 unfold GF Kk;have aM:∀F:World,(Instr.typeAssert (.iface 67 (.agg #[.int .i64 a,.int .i64 e])) 20 67 true).run prog F=.ok (.tuple #[.agg #[.int .i64 a,.int .i64 e],.bool true]) F:=fun _=>by kernel_rfl
 have ai:h≠z:=fun G=>Aj ((G▸O.AO).uniq W.AO) (by decide)
 have aj:h≠I:=fun G=>Aj ((G▸O.AO).uniq X.AO) (by decide)
 have ak:z≠I:=fun G=>Aj ((G▸W.AO).uniq X.AO) (by decide)
 have al:=Z O;have am:=Z W;have az:=Z X;clear O W X;refine callsD_of_wpS func28 rfl fun aN aO aA=>?_
 apply wpS_seq;apply wpS_region;simp[wpOpsS,go_sem,recoverD,aA,ntmps28,Exit.thenS];simp only[Array.replicate_succ,Array.replicate_zero,List.push_toArray,List.append_toArray,List.nil_append,List.cons_append,BH,BI,BJ];refine wpS_of_wp ?_;go_wp2_with fail;have K:=al.out.alloc (.cells #[.int .i64 a,.int .i64 e] 67);have L:=am.out.alloc (.cells #[.int .i64 a,.int .i64 e] 67);have M:=az.out.alloc (.cells #[.int .i64 a,.int .i64 e] 67);have N:=Y.new w 67 #[.int .i64 a,.int .i64 e];have ad:Az (fun k=>k=h\/k=z\/k=I) w (w.alloc (.cells #[.int .i64 a,.int .i64 e] 67)):=(Az.refl _ w).alloc _;have an:w.heap.size≠h:=(by have:=Y.lt al.out;omega);have ao:w.heap.size≠z:=(by have:=Y.lt am.out;omega);generalize w.alloc (.cells #[.int .i64 a,.int .i64 e] 67)=F at K L M N ad⊢;obtain⟨aa,ap⟩:=U w.heap.size;rw[ap]at N an ao⊢;have aB:=Z (Y.Bo K (Az.refl EH F|>.drew) (fun G=>G));have K3:=Z (Y.Bo L (Az.refl EH F|>.drew) (fun G=>G));have aC:=Z (Y.Bo M (Az.refl EH F|>.drew) (fun G=>G));have aD:=Z (Y.Bo N (Az.refl EH F|>.drew) (fun G=>G));have aE:=Z (ad.drew);have aF:F.cell? ⟨aa,0,none⟩=some (.int .i64 a):=Y.cell N 0;have aG:F.cell? ⟨aa,1,none⟩=some (.int .i64 e):=Y.cell N 1;have aP:F.cell? ⟨h,0,none⟩=some v:=Y.cell K 0;have c3:F.cell? ⟨z,0,none⟩=some (.int .i64 x):=Y.cell L 0;have c4:F.cell? ⟨I,0,none⟩=some (.int .i64 y):=Y.cell M 0;have aQ:=Y.frozen K 0;have z3:=Y.frozen L 0;have aR:=Y.frozen M 0;have aS:=Y.lt K;have aT:=Y.lt L;have aU:=Y.lt M;clear K L M N ad ap;refine C8 [0,1,2,3] [4,5,6] (by kernel_rfl) (by kernel_rfl) (fun aq=>aq.cell? ⟨aa,0,none⟩=some (.int .i64 a)/\aq.cell? ⟨aa,1,none⟩=some (.int .i64 e)) ⟨aF,aG⟩ ?_;simp only[pick,List.getElem?_cons_zero,List.getElem?_cons_succ];refine AR ?_ (by rfl) ?_ ?_;rotate_left
 ·(intro ae J;obtain⟨af,ag⟩:=J;go_simp;try with_reducible rfl)
 simp only[Act.put,BH,BI,BJ];refine AR ?_ (by rfl) ?_ ?_;rotate_left
 ·(intro ae J;obtain⟨af,ag⟩:=J;go_simp;try with_reducible rfl)
 simp only[Act.put,BH,BI,BJ];refine AR ?_ (by rfl) ?_ ?_;rotate_left
 ·(intro ae J;obtain⟨af,ag⟩:=J;go_simp;try with_reducible rfl)
 simp only[Act.put,BH,BI,BJ];refine AR ?_ (by rfl) ?_ ?_;rotate_left
 ·(intro ae J;obtain⟨af,ag⟩:=J;go_simp;try with_reducible rfl)
 simp only[Act.put,BH,BI,BJ];refine CV ?_;refine Ag fun aH ar=>?_
 refine step_skip (F.drew.setCell ⟨h,0,none⟩ (.slice none 0 0)) (by rfl) (by go_simp) ?_;have ah:=Z (Y.Bi aD.out (p:=⟨h,0,none⟩) an (.slice none 0 0));refine ar.out _ _ ⟨Y.cell ah.out 0,Y.cell ah.out 1⟩ ?_;simp only[Act.put,BH,BI,BJ];refine Ag fun aI au=>?_
 have ab:=Y.Bi K3.out (p:=⟨h,0,none⟩) (Ne.symm ai) (.slice none 0 0);have aV:(F.drew.setCell ⟨h,0,none⟩ (.slice none 0 0)).cell? ⟨z,0,none⟩=some (.int .i64 x):=Y.cell ab 0;have aW:=Y.frozen ab 0;have aX:=Y.lt ab;refine step_skip ((F.drew.setCell ⟨h,0,none⟩ (.slice none 0 0)).setCell ⟨z,0,none⟩ (.int .i64 a)) (by rfl) (by go_simp) ?_;have aw:=Z (Y.Bi ah.out (p:=⟨z,0,none⟩) ao (.int .i64 a));refine au.out _ _ ⟨Y.cell aw.out 0,Y.cell aw.out 1⟩ ?_;simp only[Act.put,BH,BI,BJ];refine CR ?_;have ac:=Y.Bi (Y.Bi aC.out (p:=⟨h,0,none⟩) (Ne.symm aj) (.slice none 0 0)) (p:=⟨z,0,none⟩) (Ne.symm ak) (.int .i64 a);have aY:((F.drew.setCell ⟨h,0,none⟩ (.slice none 0 0)).setCell ⟨z,0,none⟩ (.int .i64 a)).cell? ⟨I,0,none⟩=some (.int .i64 y):=Y.cell ac 0;have aZ:=Y.frozen ac 0;have a0:=Y.lt ac;have aJ:=Z (Y.Bi (Y.Bi (Y.AW aB.out 0 (.slice none 0 0)) (p:=⟨z,0,none⟩) ai (.int .i64 a)) (p:=⟨I,0,none⟩) aj (.int .i64 e));have aK:=Z (Y.Bi (Y.AW ab 0 (.int .i64 a)) (p:=⟨I,0,none⟩) ak (.int .i64 e));have aL:=Z (Y.AW ac 0 (.int .i64 e));have RC:=Z (((aE.out.setCell (p:=⟨h,0,none⟩) (.inl (.inl rfl)) (.slice none 0 0)).setCell (p:=⟨z,0,none⟩) (.inl (.inr (.inl rfl))) (.int .i64 a)).setCell (p:=⟨I,0,none⟩) (.inl (.inr (.inr rfl))) (.int .i64 e));clear ar au aH aI;go_wp2
 refine NoPanic.normal ?_;go_wp2
 refine⟨rfl,_,rfl,_,results_none rfl _ _ _,rfl,rfl,aJ.out,aK.out,aL.out,RC.out⟩
section
def FH(w:World)(p:Ps)(e:Ending)(w':World):Prop:=∃v,e=.returned (.tuple #[v,.int .i64 p.a,.int .i64 p.e])/\Ct (fun k=>k<w.heap.size) w' v p.ns/\(∀b,v.ownBlock=some b->w.heap.size<=b)/\w.grownBy w' none
theorem Fx{w:World}{a b c:Nat}{v x y:Value}(z:w.cell? ⟨a,0,none⟩=some v)(F:w.cell? ⟨b,0,none⟩=some x)(G:w.cell? ⟨c,0,none⟩=some y){h:Array Value}(t2:h.getD 2 undef=.pointer (some ⟨a,0,none⟩))(t3:h.getD 3 undef=.pointer (some ⟨b,0,none⟩))(t4:h.getD 4 undef=.pointer (some ⟨c,0,none⟩)):
  (results Tryz.f12 h).run prog w=.ok (.tuple #[v,x,y]) w:=by
 have I:h[2]?.getD undef=.pointer (some ⟨a,0,none⟩):=(by simpa using t2);have J:h[3]?.getD undef=.pointer (some ⟨b,0,none⟩):=(by simpa using t3);have K:h[4]?.getD undef=.pointer (some ⟨c,0,none⟩):=(by simpa using t4);simp[results,Tryz.results12,go_sem,I,J,K,z,F,G]
structure P3(w W:World)(v:Value)(x y:Int):Prop where
 b2:Y W w.heap.size 22 #[v]
 b3:Y W (w.heap.size+1) 3 #[.int .i64 x]
 b4:Y W (w.heap.size+1+1) 44 #[.int .i64 y]
 gr:w.grownBy W none
section
variable {w W W':World}{v u:Value}{x y:Int}
theorem P3.start(w:World):P3 w (((w.alloc (.cells #[.slice none 0 0] 22)).alloc (.cells #[.int .i64 0] 3)).alloc (.cells #[.int .i64 0] 44)) (.slice none 0 0) 0 0:=by
 refine⟨((Y.new w 22 _).alloc _).alloc _,?_,?_,AF (AF (AF (AB w none) _) _) _⟩
 ·have:=(Y.new (w.alloc (.cells #[.slice none 0 0] 22)) 3 #[.int .i64 0]).alloc (.cells #[.int .i64 0] 44);rwa [BW]at this
 ·have:=Y.new ((w.alloc (.cells #[.slice none 0 0] 22)).alloc (.cells #[.int .i64 0] 3)) 44 #[.int .i64 0];rwa [BW,BW]at this
theorem P3.grown(h:P3 w W v x y)(z:W.grownBy W' none):P3 w W' v x y:=⟨Y.grown h.b2 z (by simp),Y.grown h.b3 z (by simp),Y.grown h.b4 z (by simp),AI h.gr z⟩
theorem P3.fr(h:P3 w W v x y)(z:Fr (fun k=>w.heap.size<=k) W W'):P3 w W' v x y:=
 ⟨z.BF h.b2 (by decide) (by decide),z.BF h.b3 (by decide) (by decide),z.BF h.b4 (by decide) (by decide),Az.grown (Az.trans (Az.AL h.gr (fun _ h=>by cases h):Az EH w W) z fun i F hs=>Aj hs.1 (by omega)) (fun _ _ h=>h)⟩
theorem P3.Bo(h:P3 w W v x y)(z:Az (fun k=>k=w.heap.size\/k=w.heap.size+1\/k=w.heap.size+1+1) W W'):w.grownBy W' none:=
 Az.grown (Az.trans (Az.AL h.gr (fun _ h=>by cases h):Az EH w W) z fun i F hs=>by exfalso;omega) (fun _ _ h=>h)
theorem P3.Pw(h:P3 w W v x y)(u:Value):P3 w (W.setCell ⟨w.heap.size,0,none⟩ u) u x y:=
 ⟨Y.AW h.b2 0 u,Y.Bi h.b3 (p:=⟨w.heap.size,0,none⟩) (by show w.heap.size+1≠w.heap.size;omega) _,Y.Bi h.b4 (p:=⟨w.heap.size,0,none⟩) (by show w.heap.size+1+1≠w.heap.size;omega) _,Af h.gr (p:=⟨w.heap.size,0,none⟩) (BN _) _⟩
theorem P3.Ol(h:P3 w W v x y)(a:Int):P3 w (W.setCell ⟨w.heap.size+1,0,none⟩ (.int .i64 a)) v a y:=
 ⟨Y.Bi h.b2 (p:=⟨w.heap.size+1,0,none⟩) (by show w.heap.size≠w.heap.size+1;omega) _,Y.AW h.b3 0 _,Y.Bi h.b4 (p:=⟨w.heap.size+1,0,none⟩) (by show w.heap.size+1+1≠w.heap.size+1;omega) _,Af h.gr (p:=⟨w.heap.size+1,0,none⟩) (by show w.heap.size<=w.heap.size+1;omega) _⟩
theorem P3.QO(h:P3 w W v x y)(a:Int):P3 w (W.setCell ⟨w.heap.size+1+1,0,none⟩ (.int .i64 a)) v x a:=
 ⟨Y.Bi h.b2 (p:=⟨w.heap.size+1+1,0,none⟩) (by show w.heap.size≠w.heap.size+1+1;omega) _,Y.Bi h.b3 (p:=⟨w.heap.size+1+1,0,none⟩) (by show w.heap.size+1≠w.heap.size+1+1;omega) _,Y.AW h.b4 0 _,Af h.gr (p:=⟨w.heap.size+1+1,0,none⟩) (by show w.heap.size<=w.heap.size+1+1;omega) _⟩
theorem P3.cells(h:P3 w W v x y):W.cell? ⟨w.heap.size,0,none⟩=some v/\W.cell? ⟨w.heap.size+1,0,none⟩=some (.int .i64 x)/\W.cell? ⟨w.heap.size+1+1,0,none⟩=some (.int .i64 y)/\w.heap.size<W.heap.size/\w.heap.size+1<W.heap.size/\w.heap.size+1+1<W.heap.size/\W.frozen? ⟨w.heap.size,0,none⟩=false/\W.frozen? ⟨w.heap.size+1,0,none⟩=false/\W.frozen? ⟨w.heap.size+1+1,0,none⟩=false:=
 ⟨Y.cell h.b2 0,Y.cell h.b3 0,Y.cell h.b4 0,Y.lt h.b2,Y.lt h.b3,Y.lt h.b4,Y.frozen h.b2 0,Y.frozen h.b3 0,Y.frozen h.b4 0⟩
theorem Ct.three{ns:List V}(z:P3 w W u x y)(I:Ct (fun k=>k<w.heap.size+3) W v ns)(a b c:Value):Ct (fun k=>k<w.heap.size) (((W.setCell ⟨w.heap.size,0,none⟩ a).setCell ⟨w.heap.size+1,0,none⟩ b).setCell ⟨w.heap.size+1+1,0,none⟩ c) v ns:=by
 have G:Az (fun k=>k=w.heap.size\/k=w.heap.size+1\/k=w.heap.size+1+1) W (((W.setCell ⟨w.heap.size,0,none⟩ a).setCell ⟨w.heap.size+1,0,none⟩ b).setCell ⟨w.heap.size+1+1,0,none⟩ c):=
  (((Az.refl _ W).setCell (p:=⟨w.heap.size,0,none⟩) (.inl (.inl rfl)) a).setCell (p:=⟨w.heap.size+1,0,none⟩) (.inl (.inr (.inl rfl))) b).setCell (p:=⟨w.heap.size+1+1,0,none⟩) (.inl (.inr (.inr rfl))) c
 obtain⟨J,h,K⟩:=I;have L:∀k,k<w.heap.size->k<w.heap.size+3:=fun k hk=>by omega
 refine⟨J,h.Bo G (fun g F e=>?_),fun i M=>?_⟩
 ·rcases e with rfl|rfl|rfl
  ·exact Aj ((Own.AO h F).uniq z.b2.AO) (by decide)
  ·exact Aj ((Own.AO h F).uniq z.b3.AO) (by decide)
  ·exact Aj ((Own.AO h F).uniq z.b4.AO) (by decide)
 ·obtain⟨p,q,r,s,t,e,N⟩:=K i M;refine⟨p,q,r,s,t,e,(Bk.Bo G (fun k hk=>?_) N).mono L⟩;show k<w.heap.size+3;omega
theorem CQ.start{F:Nat}{ts:List AY}(h:Vg F ts)(M:F<=4096)(G:w.heap.size<=W.heap.size)(I:Own W 69 3 v ts.length (Jo ts) 0):CQ (fun k=>k<w.heap.size+3) (fun k=>w.heap.size<=k) (W.alloc (.cells #[v,.slice none 0 0,.int .i64 0] 65)) W.heap.size ts [] 0:=by
 refine⟨v,.slice none 0 0,Y.new W 65 _,I.alloc _,Ct.nil _ _,fun b J=>(by cases J),⟨G,fun k hk=>?_⟩,h.Ak,?_,by omega,fun t K=>?_⟩
 ·rw[BW]at hk;show w.heap.size<=k;omega
 ·have:=h.len;simp only[CU];omega
 ·rcases h.w t K with⟨z,L,_⟩|z
  ·exact⟨by rw[L];simp,fun e=>by omega⟩
  ·exact⟨z.len,z.io⟩
end
def M3(ts:List AY)(T:List AY):Ps:=match T with
 |[]=>⟨[],0,0⟩
 |t::r=>if t.k=4 then⟨[],0,0⟩else match Al ts.length 0 (t::r) []with
  | .bad a e=>⟨[],a,e⟩
  | .ok _ ts ns=>match ts with
   |[]=>⟨[],0,0⟩
   |u::_=>if u.k≠4 then⟨[],u.a,17⟩else if 300<ns.length then⟨[],0,12⟩else⟨ns,0,0⟩
theorem QL(ts:List AY):JK ts=M3 ts (AG ts):=rfl
theorem MP(s:List UInt8)(w:World)(aT:s.length<=9223372036854775807):Calls prog 12 #[sv s] w (FH w (CD s)):=by
 have bR:∀(fn:Fn) (first ar:Array Value) (w:World),(Instr.makeFunc fn first ar).run prog w=.ok (.func fn first ar) w:=fun _ _ _ _=>rfl
 have af:=Z (fun W=>UW s W aT);have aU:=Z (P3.start w);obtain⟨R,au⟩:=U (CD s);rw[au];have aw:=Z (show R=(match GA s with| .err a e=>⟨[],a,e⟩| .ok ts=>JK ts)from au.symm);obtain⟨bn,ax⟩:=U (GA s);rw[ax]at af aw;have aV:=Z ax;unfold FH sv at*;clear au ax aT;cases bn with
 |err a e=>
  have aW:=Z (VQ aV.out);have bS:(e !=0)=true:=(by rw[bne_iff_ne];exact aW.out.1);have bT:(e==0)=false:=(by rw[A4];exact aW.out.1);unfold DV at af;go_enter_defers func12,ntmps12
  go_wp2_with fail;refine(af.out _).mono ?_;rintro ac ay ⟨rfl,ag⟩;have I:=aU.out.grown ag;obtain⟨K,c3,c4,L,M,N,O,z3,X⟩:=P3.cells I;have J:=Z ((I.Ol a).QO e);clear ag I;go_upto_region 3 with(fail);obtain⟨W,aX⟩:=U ((ay.setCell ⟨w.heap.size+1,0,none⟩ (.int .i64 a)).setCell ⟨w.heap.size+1+1,0,none⟩ (.int .i64 e));rw[aX]at J⊢;clear aX K c3 c4 L M N O z3 X;have az:=J.out.grown (Ah (AB W none));obtain⟨K,c3,c4,L,M,N,O,z3,X⟩:=P3.cells J.out;have z:=Z ((((J.out.Pw (.slice none 0 0)).Ol a).QO e).grown (Ah (AB _ none)));have aA:=(az.Pw (.slice none 0 0)).cells;have aB:=((az.Pw (.slice none 0 0)).Ol a).cells;refine C8 [0,1] [2,3,4] (by kernel_rfl) (by kernel_rfl) (fun W'=>W'.cell? ⟨w.heap.size+1,0,none⟩=some (.int .i64 a)/\W'.cell? ⟨w.heap.size+1+1,0,none⟩=some (.int .i64 e)) ⟨c3,c4⟩ ?_;simp only[pick,List.getElem?_cons_zero,List.getElem?_cons_succ];refine AR ?_ (by rfl) ?_ ?_;rotate_left
  ·(intro ah aC;obtain⟨bo,bp⟩:=aC;go_simp;try with_reducible rfl)
  simp only[Act.put,BH,BI,BJ];refine AR ?_ (by rfl) ?_ ?_;rotate_left
  ·(intro ah aC;obtain⟨bo,bp⟩:=aC;go_simp;try with_reducible rfl)
  simp only[Act.put,BH,BI,BJ];refine CV ?_;refine Ag fun bq aY=>?_
  refine step_skip (W.drew.setCell ⟨w.heap.size,0,none⟩ (.slice none 0 0)) (by rfl) (by go_simp) ?_;refine aY.out _ _ ⟨aA.2.1,aA.2.2.1⟩ ?_;simp only[Act.put,BH,BI,BJ];refine Ag fun br aZ=>?_
  refine step_skip ((W.drew.setCell ⟨w.heap.size,0,none⟩ (.slice none 0 0)).setCell ⟨w.heap.size+1,0,none⟩ (.int .i64 a)) (by rfl) (by go_simp) ?_;refine aZ.out _ _ ⟨aB.2.1,aB.2.2.1⟩ ?_;simp only[Act.put,BH,BI,BJ];refine CR ?_;clear aY aZ bq br az aA aB;go_wp2
  refine NoPanic.normal ?_;go_wp2_with fail;have F:=Z (show R=⟨[],a,e⟩from aw.out);generalize (((W.setCell ⟨w.heap.size,0,none⟩ (.slice none 0 0)).setCell ⟨w.heap.size+1,0,none⟩ (.int .i64 a)).setCell ⟨w.heap.size+1+1,0,none⟩ (.int .i64 e)).drew=ah at z⊢;rw[F.out];simp[Leaves,settle,bodyPostD];exact⟨_,Fx (Y.cell z.out.b2 0) (Y.cell z.out.b3 0) (Y.cell z.out.b4 0) rfl rfl rfl,⟨_,rfl,Ct.nil _ _,fun b G=>(by cases G),z.out.gr⟩⟩
 |ok ts=>
  obtain⟨a0,a1⟩:=Ie aV.out;have a2:=Z a1;have bs:=Z a0;unfold DV at af;have aD:=Z (show R=M3 ts (AG ts)from aw.out);clear a0 a1;go_enter_defers func12,ntmps12
  go_wp2_with fail;refine(af.out _).mono ?_;rintro ac ay ⟨⟨v,rfl,aE,aF⟩,ag⟩;have I:=aU.out.grown ag;obtain⟨K,c3,c4,L,M,N,O,z3,X⟩:=P3.cells I;have J:=Z ((I.Ol 0).QO 0);have a3:=Z (Own.Bi (p:=⟨w.heap.size+1+1,0,none⟩) (Own.Bi (p:=⟨w.heap.size+1,0,none⟩) aE (fun e=>by have:=aF _ e;rw[BW,BW,BW]at this;simp at this;omega) (.int .i64 0)) (fun e=>by have:=aF _ e;rw[BW,BW,BW]at this;simp at this;omega) (.int .i64 0));obtain⟨bt,bu,rfl,_,_⟩:=Own.form aE;clear ag I aE aF;go_upto_region 4 with(fail);obtain⟨a4,a5⟩:=U ((ay.setCell ⟨w.heap.size+1,0,none⟩ (.int .i64 0)).setCell ⟨w.heap.size+1+1,0,none⟩ (.int .i64 0));rw[a5]at J a3⊢;clear a5 K c3 c4 L M N O z3 X;obtain⟨rb,aG⟩:=U a4.heap.size;have a6:=Z (CQ.start a2.out bs.out J.out.gr.size a3.out);have bU:=Z aG;rw[aG]at a6;have bv:=Z (J.out.grown (AF (AB a4 none) (.cells #[.slice bt ts.length bu,.slice none 0 0,.int .i64 0] 65)));have aH:=Z (Gi a6.out);have aI:=Ae a2.out.Ak;obtain⟨T,a7⟩:=U (AG ts);rw[a7]at aH aD aI;have a8:=Z aI;unfold Am Cr at aH;clear a7 aI;go_wp2_with fail;refine aH.out.mono ?_;rintro e a9 ⟨v,rfl,rfl,a',ba⟩;have z:=Z (P3.fr bv.out ba);have bb:=Z a';clear a' ba aG;obtain⟨bV,bW,t,r,g,bX,ar,rfl,rfl,bc,bw,bx,bz,bA,lb,d0,d1,bB⟩:=bb.out.head;have aJ:=Z (TU ts.length (fun k=>k<w.heap.size+3) (fun k=>w.heap.size<=k) rb 0 (t::r) [] a9 (fun k hk=>by have I:=Y.lt z.out.b4;have bY:k<w.heap.size+3:=hk;omega) bb.out a8.out.2);have bd:(0:Int)<(((t::r).length:Nat):Int):=(by simp only[BR];omega);obtain⟨bZ,be⟩:=U ((t::r).length);rw[be]at d0 bd bc;clear be bB;by_cases hk:t.k=4
  ·have F:=Z (show R=⟨[],0,0⟩from aD.out.trans (by show(if t.k=4 then _ else _)=_;rw[Ai hk]));have bf:((t.k:Int)==4)=true:=(by rw[DQ];omega);obtain⟨K,c3,c4,L,M,N,O,z3,X⟩:=P3.cells z.out;have h:=Z (((z.out.Pw (.slice none 0 0)).Ol 0).QO 0);clear hk;go_wp2_with fail;generalize ((a9.setCell ⟨w.heap.size,0,none⟩ (.slice none 0 0)).setCell ⟨w.heap.size+1,0,none⟩ (.int .i64 0)).setCell ⟨w.heap.size+1+1,0,none⟩ (.int .i64 0)=ah at h⊢;refine leaves_cons (f:=28) (args:=#[.pointer (some ⟨w.heap.size,0,none⟩),.pointer (some ⟨w.heap.size+1,0,none⟩),.pointer (some ⟨w.heap.size+1+1,0,none⟩)]) (by simp[settle]) (by simp[go_sem]) ?_;refine(M1 _ _ _ _).mono ?_;rintro e al bg ⟨rfl,rfl,rfl⟩;simp[Leaves,settle];exact⟨_,Fx (Y.cell h.out.b2 0) (Y.cell h.out.b3 0) (Y.cell h.out.b4 0) rfl rfl rfl,by rw[F.out];exact⟨_,rfl,Ct.nil _ _,fun b G=>(by cases G),h.out.gr⟩⟩
  ·have aK:=Z (show R=(match Al ts.length 0 (t::r) []with
    | .bad a e=>⟨[],a,e⟩
    | .ok _ ts ns=>match ts with
     |[]=>⟨[],0,0⟩
     |u::_=>if u.k≠4 then⟨[],u.a,17⟩else if 300<ns.length then⟨[],0,12⟩else⟨ns,0,0⟩)from aD.out.trans (by show(if t.k=4 then _ else _)=_;rw[AP hk]))
   have bf:((t.k:Int)==4)=false:=(by rw[A4];omega);obtain⟨bC,aL⟩:=U (Al ts.length 0 (t::r) []);rw[aL]at aJ aK;have b0:=Z (fun x bD bE e=>Ko ts.length 0 (t::r) [] x bD bE a8.out.1 (aL.trans e));unfold Am Cg at aJ;clear hk aL;go_wp2_with fail;refine aJ.out.mono ?_;cases bC with
   |bad a e=>
    have F:=Z (show R=⟨[],a,e⟩from aK.out);rintro ac aM ⟨rfl,am⟩;have an:=P3.fr z.out am;refine leaves_cons (f:=28) (args:=#[.pointer (some ⟨w.heap.size,0,none⟩),.pointer (some ⟨w.heap.size+1,0,none⟩),.pointer (some ⟨w.heap.size+1+1,0,none⟩)]) (by simp) (by simp[go_sem]) ?_;refine(Ny _ _ _ a e _ _ _ _ an.b2 an.b3 an.b4).mono ?_;rintro ac al bF ⟨rfl,rfl,aN,aO,ad,aP⟩;have aQ:=P3.Bo an aP;simp[Leaves,settle,Kk];exact⟨_,Fx (Y.cell aN 0) (Y.cell aO 0) (Y.cell ad 0) rfl rfl rfl,by rw[F.out];exact⟨_,rfl,Ct.nil _ _,fun b G=>(by cases G),aQ⟩⟩
   |ok x b1 aa=>
    rintro ac aM ⟨v,rfl,rfl,bh,am⟩;have ae:=Z (P3.fr z.out am);have bi:=Z bh;clear bh am bx bz bA lb d0 d1 bw bc bd bf;obtain⟨b5,b6,u,ad,b7,b8,b9,rfl,rfl,bG,b',ca,cb,cc,cd,bH,d14,ao⟩:=bi.out.head;have bI:=Z (PT bi.out);have bj:=Z (show R=if u.k≠4 then⟨[],u.a,17⟩else if 300<aa.length then⟨[],0,12⟩else⟨aa,0,0⟩from aK.out);have bJ:(0:Int)<(((u::ad).length:Nat):Int):=(by simp only[BR];omega);have bK:=Z ao.NT;have bL:=Z ao.new;obtain⟨ce,bk,_⟩:=ao.NT;obtain⟨ai,aj,rfl,_,_⟩:=Own.form bk;obtain⟨ab,aR⟩:=U aa.length;have ap:=Z aR;rw[aR]at d14;obtain⟨cf,bl⟩:=U ((u::ad).length);rw[bl]at bH bJ bG;clear bl ao bk aR;by_cases ak:u.k=4
    ·have bM:((u.k:Int) !=4)=false:=(by rw[bne_eq_false_iff_eq];omega);have bm:=Z (show R=if 300<aa.length then⟨[],0,12⟩else⟨aa,0,0⟩from bj.out.trans (AP (by simpa using ak)));clear ak;by_cases cg:300<ab
     ·have F:=Z (show R=⟨[],0,12⟩from bm.out.trans (Ai (by have:=ap.out;omega)));have bN:decide ((300:Int)<(ab:Int))=true:=Au (by omega);obtain⟨K,c3,c4,L,M,N,O,z3,X⟩:=P3.cells ae.out;have h:=Z (((ae.out.Pw (.slice none 0 0)).Ol 0).QO 12);go_wp2_with fail;generalize ((aM.setCell ⟨w.heap.size,0,none⟩ (.slice none 0 0)).setCell ⟨w.heap.size+1,0,none⟩ (.int .i64 0)).setCell ⟨w.heap.size+1+1,0,none⟩ (.int .i64 12)=ah at h⊢;refine leaves_cons (f:=28) (args:=#[.pointer (some ⟨w.heap.size,0,none⟩),.pointer (some ⟨w.heap.size+1,0,none⟩),.pointer (some ⟨w.heap.size+1+1,0,none⟩)]) (by simp[settle]) (by simp[go_sem]) ?_;refine(M1 _ _ _ _).mono ?_;rintro e al bg ⟨rfl,rfl,rfl⟩;simp[Leaves,settle];exact⟨_,Fx (Y.cell h.out.b2 0) (Y.cell h.out.b3 0) (Y.cell h.out.b4 0) rfl rfl rfl,by rw[F.out];exact⟨_,rfl,Ct.nil _ _,fun b G=>(by cases G),h.out.gr⟩⟩
     ·have F:=Z (show R=⟨aa,0,0⟩from bm.out.trans (AP (by have:=ap.out;omega)));have bN:decide ((300:Int)<(ab:Int))=false:=As (by omega);obtain⟨K,c3,c4,L,M,N,O,z3,X⟩:=P3.cells ae.out;have h:=Z (((ae.out.Pw (.slice ai ab aj)).Ol 0).QO 0);have bO:=Z (show∀b,(Value.slice ai ab aj).ownBlock=some b->w.heap.size<=b by have:=bL.out;rw[ap.out]at this;exact this);have aS:=Z (Ct.three (v:=.slice ai aa.length aj) ae.out bK.out (.slice ai ab aj) (.int .i64 0) (.int .i64 0));rw[ap.out]at aS;go_wp2_with fail;generalize ((aM.setCell ⟨w.heap.size,0,none⟩ (.slice ai ab aj)).setCell ⟨w.heap.size+1,0,none⟩ (.int .i64 0)).setCell ⟨w.heap.size+1+1,0,none⟩ (.int .i64 0)=ah at h aS⊢;refine leaves_cons (f:=28) (args:=#[.pointer (some ⟨w.heap.size,0,none⟩),.pointer (some ⟨w.heap.size+1,0,none⟩),.pointer (some ⟨w.heap.size+1+1,0,none⟩)]) (by simp[settle]) (by simp[go_sem]) ?_;refine(M1 _ _ _ _).mono ?_;rintro e al bg ⟨rfl,rfl,rfl⟩;simp[Leaves,settle];exact⟨_,Fx (Y.cell h.out.b2 0) (Y.cell h.out.b3 0) (Y.cell h.out.b4 0) rfl rfl rfl,by rw[F.out];exact⟨_,rfl,aS.out,bO.out,h.out.gr⟩⟩
    ·have bM:((u.k:Int) !=4)=true:=(by rw[bne_iff_ne];omega);have F:=Z (show R=⟨[],u.a,17⟩from bj.out.trans (Ai ak));have bP:=Z ak;clear ak;go_wp2_with fail;refine bI.out.mono ?_;rintro ac ch ⟨rfl,bQ⟩;have aq:=ae.out.grown bQ;rw[AP bP.out];refine leaves_cons (f:=28) (args:=#[.pointer (some ⟨w.heap.size,0,none⟩),.pointer (some ⟨w.heap.size+1,0,none⟩),.pointer (some ⟨w.heap.size+1+1,0,none⟩)]) (by simp) (by simp[go_sem]) ?_;refine(Ny _ _ _ u.a 17 _ _ _ _ aq.b2 aq.b3 aq.b4).mono ?_;rintro ac al bF ⟨rfl,rfl,aN,aO,ad,aP⟩;have aQ:=P3.Bo aq aP;simp[Leaves,settle,Kk];exact⟨_,Fx (Y.cell aN 0) (Y.cell aO 0) (Y.cell ad 0) rfl rfl rfl,by rw[F.out];exact⟨_,rfl,Ct.nil _ _,fun b G=>(by cases G),aQ⟩⟩
end
end Go.Proofs.YtdhfhphbkfgamaaGreat
