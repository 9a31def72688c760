/- PrintTells: a part of its proof. -/
import Derived.Test.YtdhfhphbkfgamaaGreatXd
set_option maxRecDepth 100000
set_option maxHeartbeats 64000000
namespace Go.Proofs.YtdhfhphbkfgamaaGreat.Lx
section
open Go.RowKit
structure Xt (w w':World) (v:Value) (l:List AX):Prop where
 own:Own w' 69 3 v l.length (JK l) 0
 new: ∀b,v.ownBlock=some b→w.heap.size+6≤b
structure KW (w w':World) (l:List UInt8) (v:Value) (acc:List AX):Prop where
 b2:Y w' w.heap.size 60 #[v]
 b3:Y w' (w.heap.size+1) 3 #[.int .i64 0]
 b4:Y w' (w.heap.size+1+1) 44 #[.int .i64 0]
 b5:Y w' (w.heap.size+1+1+1) 95 #[.int .i64 0,.int .i64 0]
 b6:B8 w' (w.heap.size+1+1+1+1) l 0
 tk:Own w' 69 3 v acc.length (JK acc) 0
 new: ∀b,v.ownBlock=some b→w.heap.size+1+1+1+1+1≤b
 gr:w.grownBy w' none
theorem Eo (l:List UInt8) (f i:Nat) (h:List AX):Dk l (f+1) i h=if i<l.length then(if h.length=400 then .err i 12 else match CX (l.drop i)with
 | .tok k s=>Dk l f (i+s.length+A4 (l.drop (i+s.length))) (h++[⟨k,s,i⟩])
 | .more=> .err l.length 23
 | .deep a=> .err ((i:Int)+a) 17)else .ok h:=rfl
structure JY (w w':World) (v:Value):Prop where
 b2:Y w' w.heap.size 60 #[v]
 b3:Y w' (w.heap.size+1) 3 #[.int .i64 0]
 b4:Y w' (w.heap.size+1+1) 44 #[.int .i64 0]
 b5:Y w' (w.heap.size+1+1+1) 95 #[.int .i64 0,.int .i64 0]
 gr:w.grownBy w' none
theorem JY.grown {w G I:World} {l:List UInt8} {v:Value} {J:List AX} (h:KW w G l v J) (z:G.grownBy I (some (w.heap.size+1+1+1+1))):JY w I v:=by
 have F: ∀k,k≠w.heap.size+1+1+1+1→some k≠some (w.heap.size+1+1+1+1):=fun k hk e=>hk (by injection e)
 exact⟨Y.grown h.b2 z (F _ (by omega)),Y.grown h.b3 z (F _ (by omega)),Y.grown h.b4 z (F _ (by omega)),Y.grown h.b5 z (F _ (by omega)),ET h.gr (by omega) z⟩
theorem KW.grown {w I F:World} {l:List UInt8} {v:Value} {J:List AX} (h:KW w I l v J) (z:I.grownBy F (some (w.heap.size+1+1+1+1))) (K:B8 F (w.heap.size+1+1+1+1) l 0):KW w F l v J:=by
 have G: ∀k,k≠w.heap.size+1+1+1+1→some k≠some (w.heap.size+1+1+1+1):=fun k hk e=>hk (by injection e)
 refine⟨Y.grown h.b2 z (G _ (by omega)),Y.grown h.b3 z (G _ (by omega)),Y.grown h.b4 z (G _ (by omega)),Y.grown h.b5 z (G _ (by omega)),K,?_,h.new,ET h.gr (by omega) z⟩;exact h.tk.Bl (Az.AL z (fun k hk=>by injection hk with hk;exact hk.symm):Az (Xe (w.heap.size+1+1+1+1)) I F) (fun b L e=>by have:=h.new b L;have:b=w.heap.size+1+1+1+1:=e;omega)
def KE (l:List UInt8):Ar→Ar
 | .ok h=> .ok (h++[⟨4,[],l.length⟩])
 | .err a e=> .err a e
def DK (w:World) (l:List UInt8):Ar→Ending→World→Prop
 | .ok h,e,w'=>(∃v,e=.returned (.tuple #[v,.int .i64 0,.int .i64 0])∧Own w' 69 3 v h.length (JK h) 0∧ ∀b,v.ownBlock=some b→w.heap.size≤b)∧w.grownBy w' none
 | .err a k,e,w'=>e=.returned (.tuple #[.slice none 0 0,.int .i64 a,.int .i64 k])∧w.grownBy w' none
theorem Jy {w:World} {a b c:Nat} {v x y:Value} (z:w.cell? ⟨a,0,none⟩=some v) (F:w.cell? ⟨b,0,none⟩=some x) (G:w.cell? ⟨c,0,none⟩=some y) {h:Array Value} (I:h.getD 2 undef=.pointer (some ⟨a,0,none⟩)) (J:h.getD 3 undef=.pointer (some ⟨b,0,none⟩)) (K:h.getD 4 undef=.pointer (some ⟨c,0,none⟩)):
  (results Tryz.f27 h).run Tryz.prog w=.ok (.tuple #[v,x,y]) w:=by
 have L:h[2]?.getD undef=.pointer (some ⟨a,0,none⟩):=(by simpa using I);have M:h[3]?.getD undef=.pointer (some ⟨b,0,none⟩):=(by simpa using J);have N:h[4]?.getD undef=.pointer (some ⟨c,0,none⟩):=(by simpa using K);simp[results,Tryz.results27,go_sem,L,M,N,z,F,G]
theorem Rw (l:List UInt8) (w:World) (z:4096<l.length) (F:l.length≤9223372036854775807):Calls Tryz.prog 27 #[sv l] w fun e w'=>DK w l (.err 0 10) e w':=by
 have G: ∀(fn:Fn) (first h:Array Value) (w:World),(Instr.makeFunc fn first h).run Tryz.prog w=.ok (.func fn first h) w:=fun _ _ _ _=>rfl
 have I:=sz l;have q:decide ((4096:Int)<(l.length:Int))=true:=At (by omega);unfold sv DK;go_enter_defers Tryz.func27,Tryz.ntmps27
 go_wp2
 simp[Leaves,settle,results,Tryz.results27,go_sem,bodyPostD];exact AF (AF (AF (AB w none) _) _) _
theorem Z2j {P:Prop} (h:P:=by
 simp[Leaves,settle,F7];exact⟨_,Jy X aa ab rfl rfl rfl,by rw[au.out];exact⟨rfl,ac⟩⟩):P:=h
theorem PU (l:List UInt8) (w:World) (bF:l.length≤4096) (R:Ar) (aK:Dk l (l.length+1) (A4 l) []=R):Calls Tryz.prog 27 #[sv l] w fun e w'=>DK w l (KE l R) e w':=by
 have bG: ∀(fn:Fn) (first ae:Array Value) (w:World),(Instr.makeFunc fn first ae).run Tryz.prog w=.ok (.func fn first ae) w:=fun _ _ _ _=>rfl
 have bH:=sz l;have q:decide ((4096:Int)<(l.length:Int))=false:=Aq (by omega);have a1:=Z aK;clear aK;obtain⟨aL,ap⟩: ∃aL,((((w.alloc (.cells #[.slice none 0 0] 60)).alloc (.cells #[.int .i64 0] 3)).alloc (.cells #[.int .i64 0] 44)).alloc (.cells #[.int .i64 0,.int .i64 0] 95)).alloc (.cells #[sv l,.int .i64 0] 100)=aL:=⟨_,rfl⟩;have aO:KW w aL l (.slice none 0 0) []:=by
  rw[←ap];refine⟨((((Y.new w 60 _).alloc _).alloc _).alloc _).alloc _,?_,?_,?_,?_,Own.nil _ _ _ _,fun b G=>by simp[Value.ownBlock]at G,AF (AF (AF (AF (AF (AB w none) _) _) _) _) _⟩
  ·have:=(((Y.new (w.alloc (.cells #[.slice none 0 0] 60)) 3 #[.int .i64 0]).alloc (.cells #[.int .i64 0] 44)).alloc (.cells #[.int .i64 0,.int .i64 0] 95)).alloc (.cells #[sv l,.int .i64 0] 100);rwa [World.size_alloc]at this
  ·have:=((Y.new ((w.alloc (.cells #[.slice none 0 0] 60)).alloc (.cells #[.int .i64 0] 3)) 44 #[.int .i64 0]).alloc (.cells #[.int .i64 0,.int .i64 0] 95)).alloc (.cells #[sv l,.int .i64 0] 100);rwa [World.size_alloc,World.size_alloc]at this
  ·have:=(Y.new (((w.alloc (.cells #[.slice none 0 0] 60)).alloc (.cells #[.int .i64 0] 3)).alloc (.cells #[.int .i64 0] 44)) 95 #[.int .i64 0,.int .i64 0]).alloc (.cells #[sv l,.int .i64 0] 100);rwa [World.size_alloc,World.size_alloc,World.size_alloc]at this
  ·have:=Y.new ((((w.alloc (.cells #[.slice none 0 0] 60)).alloc (.cells #[.int .i64 0] 3)).alloc (.cells #[.int .i64 0] 44)).alloc (.cells #[.int .i64 0,.int .i64 0] 95)) 100 #[sv l,.int .i64 0];rwa [World.size_alloc,World.size_alloc,World.size_alloc,World.size_alloc]at this
 have a2:=Z aO;have G:=LW (w.heap.size+1+1+1+1) 0 0 l aL aO.b6 (DM _) (by omega);rw[List.drop_zero]at G;unfold sv at ap⊢;rw[←ap]at G;have bf:=Z G;have bg:=Z ap;clear G aO ap;go_enter_defers Tryz.func27,Tryz.ntmps27
 go_wp2_with fail;refine bf.out.mono ?_;rintro e bI ⟨rfl,rfl⟩;rw[bg.out];go_wp2_with fail;go_loopw [7] (fun aP wr=> ∃(aq i:Nat) (h:List AX) (v:Value),aP=.int .i64 i∧i≤l.length∧l.length<i+aq∧h.length≤400∧KW w wr l v h∧A4 (l.drop i)=0∧Dk l aq i h=R) (fun aP _=>l.length+1-(intOf aP).toNat);case atStart=>exact⟨l.length+1,A4 l,[],_,by simp,GR _ l rfl,by omega,by simp,a2.out,Dl _ l rfl,a1.out⟩
 case round=>
  obtain⟨aq,i,h,v,rfl,a3,bJ,bK,aM,a4,a5⟩:=hrel;have F:=Z aM;have aQ:=Z a5;have bh:=Z a4;obtain⟨al,ae,rfl,bL,bM⟩:=aM.tk.form;have bN:=Y.cell aM.b2 0;clear aM a5 a4 a2 a1;obtain⟨f,rfl⟩: ∃f,aq=f+1:=⟨aq-1,by omega⟩;by_cases ar:i<l.length
  ·have bi:decide ((i:Int)<(l.length:Int))=true:=At (by omega);by_cases W:h.length=400
   ·have au:=Z (show R=.err i 12 by rw[←aQ.out,Eo,Ah ar,Ah W]);have bj:((h.length:Int)==400)=true:=(by rw[beq_iff_eq];omega);go_wp2_with fail;refine leaves_cons (f:=57) (args:=#[.pointer (some ⟨w.heap.size+1+1+1,0,none⟩)]) (by simp) (by simp[go_sem]) ?_;refine(Gh (w.heap.size+1+1+1) i 12 0 0 _ F.out.b5).mono ?_;rintro aw am ax ⟨rfl,rfl,ay,M⟩;have N: ∀k,k≠w.heap.size+1+1+1→some k≠some (w.heap.size+1+1+1):=fun k hk e=>hk (by injection e)
    have ag:=Y.grown F.out.b2 M (N _ (by omega));have ah:=Y.grown F.out.b3 M (N _ (by omega));have W:=Y.grown F.out.b4 M (N _ (by omega));have az:=ET F.out.gr (by omega) M;refine leaves_cons (f:=56) (args:=#[.pointer (some ⟨w.heap.size+1+1+1,0,none⟩),.pointer (some ⟨w.heap.size,0,none⟩),.pointer (some ⟨w.heap.size+1,0,none⟩),.pointer (some ⟨w.heap.size+1+1,0,none⟩)]) (by simp[settle,F7]) (by simp[go_sem]) ?_;refine(JR (w.heap.size+1+1+1) w.heap.size (w.heap.size+1) (w.heap.size+1+1) i 12 _ 0 0 (by decide) _ _ ay ag ah W (by omega) (by omega) (by omega) (by omega) (by omega)).mono ?_;rintro aw am a6 ⟨rfl,rfl,rfl⟩;have X:=Y.cell (Y.Be (Y.Be (Y.AV ag 0 (.slice none 0 0)) (p:=⟨w.heap.size+1,0,none⟩) (by show w.heap.size≠w.heap.size+1;omega) (.int .i64 i)) (p:=⟨w.heap.size+1+1,0,none⟩) (by show w.heap.size≠w.heap.size+1+1;omega) (.int .i64 12)) 0;have aa:=Y.cell (Y.Be (Y.AV (Y.Be ah (p:=⟨w.heap.size,0,none⟩) (by show w.heap.size+1≠w.heap.size;omega) (.slice none 0 0)) 0 (.int .i64 i)) (p:=⟨w.heap.size+1+1,0,none⟩) (by show w.heap.size+1≠w.heap.size+1+1;omega) (.int .i64 12)) 0;have ab:=Y.cell (Y.AV (Y.Be (Y.Be W (p:=⟨w.heap.size,0,none⟩) (by show w.heap.size+1+1≠w.heap.size;omega) (.slice none 0 0)) (p:=⟨w.heap.size+1,0,none⟩) (by show w.heap.size+1+1≠w.heap.size+1;omega) (.int .i64 i)) 0 (.int .i64 12)) 0;have ac:=Af (Af (Af az (p:=⟨w.heap.size,0,none⟩) (BL _) (.slice none 0 0)) (p:=⟨w.heap.size+1,0,none⟩) (by show w.heap.size≤w.heap.size+1;omega) (.int .i64 i)) (p:=⟨w.heap.size+1+1,0,none⟩) (by show w.heap.size≤w.heap.size+1+1;omega) (.int .i64 12);generalize ((ax.setCell ⟨w.heap.size,0,none⟩ (.slice none 0 0)).setCell ⟨w.heap.size+1,0,none⟩ (.int .i64 i)).setCell ⟨w.heap.size+1+1,0,none⟩ (.int .i64 12)=aR at X aa ab ac⊢;exact Z2j
   have bj:((h.length:Int)==400)=false:=(by rw[beq_eq_false_iff_ne];omega);have J:=EU (w.heap.size+1+1+1+1) i l wr F.out.b6 ar (by omega);have ai:Dk l (f+1) i h=match CX (l.drop i)with
    | .tok k s=>Dk l f (i+s.length+A4 (l.drop (i+s.length))) (h++[⟨k,s,i⟩])
    | .more=> .err l.length 23
    | .deep a=> .err ((i:Int)+a) 17:=by rw[Eo,Ah ar,U W]
   have aA:=fun k s (I:CX (l.drop i)=.tok k s)=>JI (Jw ar) bh.out I
   obtain⟨aS,aN⟩: ∃aS,CX (l.drop i)=aS:=⟨_,rfl⟩;rw[aN]at J ai aA;rw[aQ.out]at ai;cases aS with
   |more=>
    have au:=Z (show R=.err l.length 23 from ai);unfold Gk at J;have aB:=Z J;clear J ai aA aN;go_wp2_with fail;refine aB.out.mono ?_;rintro e O ⟨rfl,aj⟩;have aC:JY w O (.slice al h.length ae):=JY.grown F.out aj;have z:=Z aC;clear aj aC;refine leaves_cons (f:=57) (args:=#[.pointer (some ⟨w.heap.size+1+1+1,0,none⟩)]) (by simp) (by simp[go_sem]) ?_;refine(Gh (w.heap.size+1+1+1) l.length 23 0 0 _ z.out.b5).mono ?_;rintro aw am ax ⟨rfl,rfl,ay,M⟩;have N: ∀k,k≠w.heap.size+1+1+1→some k≠some (w.heap.size+1+1+1):=fun k hk e=>hk (by injection e)
    have ag:=Y.grown z.out.b2 M (N _ (by omega));have ah:=Y.grown z.out.b3 M (N _ (by omega));have W:=Y.grown z.out.b4 M (N _ (by omega));have az:=ET z.out.gr (by omega) M;refine leaves_cons (f:=56) (args:=#[.pointer (some ⟨w.heap.size+1+1+1,0,none⟩),.pointer (some ⟨w.heap.size,0,none⟩),.pointer (some ⟨w.heap.size+1,0,none⟩),.pointer (some ⟨w.heap.size+1+1,0,none⟩)]) (by simp[settle,F7]) (by simp[go_sem]) ?_;refine(JR (w.heap.size+1+1+1) w.heap.size (w.heap.size+1) (w.heap.size+1+1) l.length 23 _ 0 0 (by decide) _ _ ay ag ah W (by omega) (by omega) (by omega) (by omega) (by omega)).mono ?_;rintro aw am a6 ⟨rfl,rfl,rfl⟩;have X:=Y.cell (Y.Be (Y.Be (Y.AV ag 0 (.slice none 0 0)) (p:=⟨w.heap.size+1,0,none⟩) (by show w.heap.size≠w.heap.size+1;omega) (.int .i64 l.length)) (p:=⟨w.heap.size+1+1,0,none⟩) (by show w.heap.size≠w.heap.size+1+1;omega) (.int .i64 23)) 0;have aa:=Y.cell (Y.Be (Y.AV (Y.Be ah (p:=⟨w.heap.size,0,none⟩) (by show w.heap.size+1≠w.heap.size;omega) (.slice none 0 0)) 0 (.int .i64 l.length)) (p:=⟨w.heap.size+1+1,0,none⟩) (by show w.heap.size+1≠w.heap.size+1+1;omega) (.int .i64 23)) 0;have ab:=Y.cell (Y.AV (Y.Be (Y.Be W (p:=⟨w.heap.size,0,none⟩) (by show w.heap.size+1+1≠w.heap.size;omega) (.slice none 0 0)) (p:=⟨w.heap.size+1,0,none⟩) (by show w.heap.size+1+1≠w.heap.size+1;omega) (.int .i64 l.length)) 0 (.int .i64 23)) 0;have ac:=Af (Af (Af az (p:=⟨w.heap.size,0,none⟩) (BL _) (.slice none 0 0)) (p:=⟨w.heap.size+1,0,none⟩) (by show w.heap.size≤w.heap.size+1;omega) (.int .i64 l.length)) (p:=⟨w.heap.size+1+1,0,none⟩) (by show w.heap.size≤w.heap.size+1+1;omega) (.int .i64 23);generalize ((ax.setCell ⟨w.heap.size,0,none⟩ (.slice none 0 0)).setCell ⟨w.heap.size+1,0,none⟩ (.int .i64 l.length)).setCell ⟨w.heap.size+1+1,0,none⟩ (.int .i64 23)=aR at X aa ab ac⊢;exact Z2j
   |deep a=>
    have au:=Z (show R=.err ((i:Int)+a) 17 from ai);unfold Gk at J;have aB:=Z J;clear J ai aA aN;go_wp2_with fail;refine aB.out.mono ?_;rintro e O ⟨rfl,aj⟩;have aC:JY w O (.slice al h.length ae):=JY.grown F.out aj;have z:=Z aC;clear aj aC;refine leaves_cons (f:=57) (args:=#[.pointer (some ⟨w.heap.size+1+1+1,0,none⟩)]) (by simp) (by simp[go_sem]) ?_;refine(Gh (w.heap.size+1+1+1) ((i:Int)+a) 17 0 0 _ z.out.b5).mono ?_;rintro aw am ax ⟨rfl,rfl,ay,M⟩;have N: ∀k,k≠w.heap.size+1+1+1→some k≠some (w.heap.size+1+1+1):=fun k hk e=>hk (by injection e)
    have ag:=Y.grown z.out.b2 M (N _ (by omega));have ah:=Y.grown z.out.b3 M (N _ (by omega));have W:=Y.grown z.out.b4 M (N _ (by omega));have az:=ET z.out.gr (by omega) M;refine leaves_cons (f:=56) (args:=#[.pointer (some ⟨w.heap.size+1+1+1,0,none⟩),.pointer (some ⟨w.heap.size,0,none⟩),.pointer (some ⟨w.heap.size+1,0,none⟩),.pointer (some ⟨w.heap.size+1+1,0,none⟩)]) (by simp[settle,F7]) (by simp[go_sem]) ?_;refine(JR (w.heap.size+1+1+1) w.heap.size (w.heap.size+1) (w.heap.size+1+1) ((i:Int)+a) 17 _ 0 0 (by decide) _ _ ay ag ah W (by omega) (by omega) (by omega) (by omega) (by omega)).mono ?_;rintro aw am a6 ⟨rfl,rfl,rfl⟩;have X:=Y.cell (Y.Be (Y.Be (Y.AV ag 0 (.slice none 0 0)) (p:=⟨w.heap.size+1,0,none⟩) (by show w.heap.size≠w.heap.size+1;omega) (.int .i64 ((i:Int)+a))) (p:=⟨w.heap.size+1+1,0,none⟩) (by show w.heap.size≠w.heap.size+1+1;omega) (.int .i64 17)) 0;have aa:=Y.cell (Y.Be (Y.AV (Y.Be ah (p:=⟨w.heap.size,0,none⟩) (by show w.heap.size+1≠w.heap.size;omega) (.slice none 0 0)) 0 (.int .i64 ((i:Int)+a))) (p:=⟨w.heap.size+1+1,0,none⟩) (by show w.heap.size+1≠w.heap.size+1+1;omega) (.int .i64 17)) 0;have ab:=Y.cell (Y.AV (Y.Be (Y.Be W (p:=⟨w.heap.size,0,none⟩) (by show w.heap.size+1+1≠w.heap.size;omega) (.slice none 0 0)) (p:=⟨w.heap.size+1,0,none⟩) (by show w.heap.size+1+1≠w.heap.size+1;omega) (.int .i64 ((i:Int)+a))) 0 (.int .i64 17)) 0;have ac:=Af (Af (Af az (p:=⟨w.heap.size,0,none⟩) (BL _) (.slice none 0 0)) (p:=⟨w.heap.size+1,0,none⟩) (by show w.heap.size≤w.heap.size+1;omega) (.int .i64 ((i:Int)+a))) (p:=⟨w.heap.size+1+1,0,none⟩) (by show w.heap.size≤w.heap.size+1+1;omega) (.int .i64 17);generalize ((ax.setCell ⟨w.heap.size,0,none⟩ (.slice none 0 0)).setCell ⟨w.heap.size+1,0,none⟩ (.int .i64 ((i:Int)+a))).setCell ⟨w.heap.size+1+1,0,none⟩ (.int .i64 17)=aR at X aa ab ac⊢;exact Z2j
   |tok k s=>
    obtain⟨bO,bk⟩:=aA k s rfl;rw[Dq]at bk;have bl:=Z (show R=Dk l f (i+s.length+A4 (l.drop (i+s.length))) (h++[⟨k,s,i⟩])from ai);unfold Gk sv at J;have aB:=Z J;have bP:=sz s;clear J ai aA aN;go_wp2_with fail;refine aB.out.mono ?_;rintro e O ⟨rfl,aj,a7⟩;have z:=Z (F.out.grown aj a7);have bQ:=Y.cell z.out.b2 0;have bR:=Y.frozen z.out.b2 0;have bS:=Y.lt z.out.b2;have aD:=(z.out.tk.alloc (.cells #[.int .i64 k,.string ⟨s.toArray⟩,.int .i64 i] 69)).alloc (.cells #[.int .i64 k,.string ⟨s.toArray⟩,.int .i64 i] 69);have ao:=Own.made (O.alloc (.cells #[.int .i64 k,.string ⟨s.toArray⟩,.int .i64 i] 69)) #[.int .i64 k,.string ⟨s.toArray⟩,.int .i64 i] 69 3 1 0 rfl (by unfold maxLen;omega);rw[World.size_alloc]at ao;have aE:=Own.src (P:=Tryz.prog) (tx:=60) (e':=69) ao (by kernel_rfl) (by
     intro u aF;simp only[List.mem_cons,List.not_mem_nil,or_false]at aF;rcases aF with rfl|rfl|rfl<;>rfl)
    have a8:Y ((O.alloc (.cells #[.int .i64 k,.string ⟨s.toArray⟩,.int .i64 i] 69)).alloc (.cells #[.int .i64 k,.string ⟨s.toArray⟩,.int .i64 i] 69)) O.heap.size 69 #[.int .i64 k,.string ⟨s.toArray⟩,.int .i64 i]:=(Y.new O 69 _).alloc _;have a9: ∀b,(Value.slice al h.length ae).ownBlock=some b→b<O.heap.size:=fun b G=>z.out.tk.lt G
    have aT:=Z aD;have aU:=Z aE;have bm:=Z a8;have bn:=Z a9;have bT: ¬O.heap.size=w.heap.size:=(by omega);clear aD aE ao a8 a9 aj a7;go_wp2_with (at_builtin;refine AU 69 (.agg #[.int .i64 0,.string ⟨#[]⟩,.int .i64 0]) 3 32 Tryz.underlying60 bo rfl (.slice al h.length ae) h.length (JK h) 0 _ 1 [.int .i64 k,.string ⟨s.toArray⟩,.int .i64 i] rfl rfl aT.out (by omega) aU.out (by unfold maxLen;omega) (by omega) ?_;intro bp w' an ad J _;obtain⟨K,L,rfl,_,_⟩:=Own.form an;(have aV:=Z an);(have af:Y w' w.heap.size 60 #[.slice al h.length ae]:=Y.Bl ((z.out.b2.alloc _).alloc _) ad (fun e=>by have:=z.out.new _ e;omega));(have bq:=Y.cell af 0);(have br:=Y.frozen af 0);(have bs:=Y.lt af);(have a':Y w' O.heap.size 69 #[.int .i64 k,.string ⟨s.toArray⟩,.int .i64 i]:=Y.Bl bm.out ad (fun e=>by have:=bn.out _ e;omega));(have bU:=Y.cell a' 1);(have aG:=Z ad);(have aW:=Z J);clear an ad J af a');have ak: ∀b,(Value.slice K (h.length+1) L).ownBlock=some b→w.heap.size+1+1+1+1+1≤b:=by
     intro b G;have bt:=Y.lt z.out.b6;rcases aW.out b G with I|I
     ·exact z.out.new b I
     ·rw[World.size_alloc,World.size_alloc]at I;omega
    have aH: ∀ {g:Nat} {T:TypeId} {ba:Array Value},Y O g T ba→g≠w.heap.size→g≤w.heap.size+1+1+1+1→Y (w'.setCell ⟨w.heap.size,0,none⟩ (.slice K (h.length+1) L)) g T ba:=fun bu N bV=>Y.Be (Y.Bl ((Y.alloc (Y.alloc bu _) _)) aG.out (fun e=>by have:=z.out.new _ e;omega)) (by show _≠w.heap.size;exact N) _
    have bb:Y (w'.setCell ⟨w.heap.size,0,none⟩ (.slice K (h.length+1) L)) w.heap.size 60 #[.slice K (h.length+1) L]:=Y.AV (Y.Bl ((z.out.b2.alloc _).alloc _) aG.out (fun e=>by have:=z.out.new _ e;omega)) 0 _;have aX:KW w (w'.setCell ⟨w.heap.size,0,none⟩ (.slice K (h.length+1) L)) l (.slice K (h.length+1) L) (h++[⟨k,s,i⟩]):=by
     refine⟨bb,aH z.out.b3 (by omega) (by omega),aH z.out.b4 (by omega) (by omega),aH z.out.b5 (by omega) (by omega),aH z.out.b6 (by omega) (by omega),?_,ak,?_⟩
     ·rw[BE,Km];exact Own.Be (p:=⟨w.heap.size,0,none⟩) aV.out (fun e=>by have aY:w.heap.size+1+1+1+1+1≤w.heap.size:=ak _ e;omega) _
     ·exact(((((Az.AL z.out.gr (fun _ I=>by cases I):Az D4 w O).alloc _).alloc _).trans aG.out (fun i a3 G=>by have:=z.out.new i G;omega)).setCell (p:=⟨w.heap.size,0,none⟩) (.inr (BL _)) _).grown (fun _ _ I=>I)
    have bv:=Z aX;have aZ:=LW (w.heap.size+1+1+1+1) 0 (i+s.length) l _ aX.b6 (by omega) (by omega);rw[show(((i+s.length:Nat)):Int)=(i:Int)+s.length by omega]at aZ;have bw:=Z aZ;have bx:=GR _ (l.drop (i+s.length)) rfl;have a0:=Dl _ (l.drop (i+s.length)) rfl;rw[List.drop_drop]at a0;rw[Dq]at bx;have bz:=Z a0;clear aX aZ bb aH ak a0;go_wp2_with fail;refine bw.out.mono ?_;rintro e bW ⟨rfl,rfl⟩;go_wp2_with fail;go_roundw;case rel=>exact⟨f,i+s.length+A4 (l.drop (i+s.length)),h++[⟨k,s,i⟩],_,by go_num,by omega,by omega,by rw[BE];simp;omega,bv.out,bz.out,bl.out.symm⟩
    case measure=>simp[intOf];omega
  ·have bi:decide ((i:Int)<(l.length:Int))=false:=Aq (by omega);have aK:R=.ok h:=(by rw[←aQ.out,Eo,U ar]);subst aK;have c3:=Y.cell F.out.b3 0;have c4:=Y.cell F.out.b4 0;have aD:=F.out.tk.alloc (.cells #[.int .i64 4,.string ⟨#[]⟩,.int .i64 l.length] 69);have ao:=Own.made wr #[.int .i64 4,.string ⟨#[]⟩,.int .i64 l.length] 69 3 1 0 rfl (by unfold maxLen;omega);have aE:=Own.src (P:=Tryz.prog) (tx:=60) (e':=69) ao (by kernel_rfl) (by
    intro u aF;simp only[List.mem_cons,List.not_mem_nil,or_false]at aF;rcases aF with rfl|rfl|rfl<;>rfl)
   have aT:=Z aD;have aU:=Z aE;clear aD aE ao c3 c4;go_wp2_with (at_builtin;refine AU 69 (.agg #[.int .i64 0,.string ⟨#[]⟩,.int .i64 0]) 3 32 Tryz.underlying60 bo rfl (.slice al h.length ae) h.length (JK h) 0 _ 1 [.int .i64 4,.string ⟨#[]⟩,.int .i64 l.length] rfl rfl aT.out (by omega) aU.out (by unfold maxLen;omega) (by omega) ?_;intro bp w' an ad J _;obtain⟨K,L,rfl,_,_⟩:=Own.form an;(have aV:=Z an);(have af:Y w' w.heap.size 60 #[.slice al h.length ae]:=Y.Bl (F.out.b2.alloc _) ad (fun e=>by have:=F.out.new _ e;omega));(have aI:Y w' (w.heap.size+1) 3 #[.int .i64 0]:=Y.Bl (F.out.b3.alloc _) ad (fun e=>by have:=F.out.new _ e;omega));(have aJ:Y w' (w.heap.size+1+1) 44 #[.int .i64 0]:=Y.Bl (F.out.b4.alloc _) ad (fun e=>by have:=F.out.new _ e;omega));(have bc:Y w' (w.heap.size+1+1+1) 95 #[.int .i64 0,.int .i64 0]:=Y.Bl (F.out.b5.alloc _) ad (fun e=>by have:=F.out.new _ e;omega));(have bA:=Z af);(have bB:=Z aI);(have bC:=Z aJ);(have bD:=Z bc);(have bq:=Y.cell af 0);(have br:=Y.frozen af 0);(have bs:=Y.lt af);(have bX:=Y.cell aI 0);(have bY:=Y.frozen aI 0);(have bZ:=Y.lt aI);(have b0:=Y.cell aJ 0);(have b1:=Y.frozen aJ 0);(have b7:=Y.lt aJ);(have aG:=Z ad);(have aW:=Z J);clear an ad J af aI aJ bc);have ak: ∀b,(Value.slice K (h.length+1) L).ownBlock=some b→w.heap.size+1+1+1+1+1≤b:=by
    intro b G;have bt:=Y.lt F.out.b6;rcases aW.out b G with I|I
    ·exact F.out.new b I
    ·rw[World.size_alloc]at I;omega
   have X:=Y.Be (Y.Be (Y.AV bA.out 0 (.slice K (h.length+1) L)) (p:=⟨w.heap.size+1,0,none⟩) (by show w.heap.size≠w.heap.size+1;omega) (.int .i64 0)) (p:=⟨w.heap.size+1+1,0,none⟩) (by show w.heap.size≠w.heap.size+1+1;omega) (.int .i64 0);have aa:=Y.Be (Y.AV (Y.Be bB.out (p:=⟨w.heap.size,0,none⟩) (by show w.heap.size+1≠w.heap.size;omega) (.slice K (h.length+1) L)) 0 (.int .i64 0)) (p:=⟨w.heap.size+1+1,0,none⟩) (by show w.heap.size+1≠w.heap.size+1+1;omega) (.int .i64 0);have ab:=Y.AV (Y.Be (Y.Be bC.out (p:=⟨w.heap.size,0,none⟩) (by show w.heap.size+1+1≠w.heap.size;omega) (.slice K (h.length+1) L)) (p:=⟨w.heap.size+1,0,none⟩) (by show w.heap.size+1+1≠w.heap.size+1;omega) (.int .i64 0)) 0 (.int .i64 0);have bd:=Y.Be (Y.Be (Y.Be bD.out (p:=⟨w.heap.size,0,none⟩) (by show w.heap.size+1+1+1≠w.heap.size;omega) (.slice K (h.length+1) L)) (p:=⟨w.heap.size+1,0,none⟩) (by show w.heap.size+1+1+1≠w.heap.size+1;omega) (.int .i64 0)) (p:=⟨w.heap.size+1+1,0,none⟩) (by show w.heap.size+1+1+1≠w.heap.size+1+1;omega) (.int .i64 0);have be:=Own.Be (p:=⟨w.heap.size+1+1,0,none⟩) (Own.Be (p:=⟨w.heap.size+1,0,none⟩) (Own.Be (p:=⟨w.heap.size,0,none⟩) aV.out (fun e=>by have aY:w.heap.size+1+1+1+1+1≤w.heap.size:=ak _ e;omega) (.slice K (h.length+1) L)) (fun e=>by have aY:w.heap.size+1+1+1+1+1≤w.heap.size+1:=ak _ e;omega) (.int .i64 0)) (fun e=>by have aY:w.heap.size+1+1+1+1+1≤w.heap.size+1+1:=ak _ e;omega) (.int .i64 0);have ac:w.grownBy _ none:=((((((Az.AL F.out.gr (fun _ I=>by cases I):Az D4 w wr).alloc _).trans aG.out (fun i a3 G=>by have:=F.out.new i G;omega)).setCell (p:=⟨w.heap.size,0,none⟩) (.inr (BL _)) (.slice K (h.length+1) L)).setCell (p:=⟨w.heap.size+1,0,none⟩) (.inr (by show w.heap.size≤w.heap.size+1;omega)) (.int .i64 0)).setCell (p:=⟨w.heap.size+1+1,0,none⟩) (.inr (by show w.heap.size≤w.heap.size+1+1;omega)) (.int .i64 0)).grown (fun _ _ I=>I);refine leaves_cons (f:=57) (args:=#[.pointer (some ⟨w.heap.size+1+1+1,0,none⟩)]) (by simp) (by simp[go_sem]) ?_;refine(NT _ _).mono ?_;rintro e am bE ⟨rfl,rfl,rfl⟩;refine leaves_cons (f:=56) (args:=#[.pointer (some ⟨w.heap.size+1+1+1,0,none⟩),.pointer (some ⟨w.heap.size,0,none⟩),.pointer (some ⟨w.heap.size+1,0,none⟩),.pointer (some ⟨w.heap.size+1+1,0,none⟩)]) (by simp[settle]) (by simp[go_sem]) ?_;generalize ((w'.setCell ⟨w.heap.size,0,none⟩ (.slice K (h.length+1) L)).setCell ⟨w.heap.size+1,0,none⟩ (.int .i64 0)).setCell ⟨w.heap.size+1+1,0,none⟩ (.int .i64 0)=aR at X aa ab bd be ac⊢;refine(Rr (w.heap.size+1+1+1) w.heap.size (w.heap.size+1) (w.heap.size+1+1) 0 _ _ bd).mono ?_;rintro e am bE ⟨rfl,rfl,rfl⟩;simp[Leaves,settle];refine⟨_,Jy (Y.cell X 0) (Y.cell aa 0) (Y.cell ab 0) rfl rfl rfl,⟨⟨_,rfl,?_,fun b G=>by have:=ak b G;omega⟩,ac⟩⟩;rw[BE,Km];exact be
end
section
open Go.RowKit
def Dw (h:List UInt8→Rs) (e:UInt8) (z:List UInt8):Nat→Nat→List UInt8→Rs
 |0,_,_=> .more
 |_+1,_,[]=> .more
 |f+1,o,c::r=>
  if c=e then(if o=0 then .ok 1 else(Dw h e z f (o-1) r).add 1)
  else if e=41∧c=40 then(Dw h e z f (o+1) r).add 1
  else if C3 z c=true then(Dw h e z f o r).add 1
  else match h (c::r)with
   | .more=> .more
   | .deep a=> .deep a
   | .ok n=>(Dw h e z f o (r.drop (n-1))).add (max n 1)
theorem Gf (h:List UInt8→Rs) (e:UInt8) (z:List UInt8): ∀(f o:Nat) (t:List UInt8),t.length≤f→Dw h e z f o t=BJ h e z o t:=by
 intro f;induction f with
 |zero=>
  intro o t F;have:t=[]:=List.length_eq_zero_iff.1 (by omega);subst this;rw[EH];rfl
 |succ f ih=>
  intro o t F;cases t with
  |nil=>rw[EH];rfl
  |cons c r=>
   rw[BP]at F;rw[FD];show(if c=e then(if o=0 then .ok 1 else(Dw h e z f (o-1) r).add 1)
    else if e=41∧c=40 then(Dw h e z f (o+1) r).add 1
    else if C3 z c=true then(Dw h e z f o r).add 1
    else match h (c::r)with
     | .more=> .more
     | .deep a=> .deep a
     | .ok n=>(Dw h e z f o (r.drop (n-1))).add (max n 1))=_
   rw[ih _ r (by omega),ih _ r (by omega),ih _ r (by omega)];cases G:h (c::r)with
   |more=>rfl
   |deep a=>rfl
   |ok n=>simp only[ih _ (r.drop (n-1)) (by rw[Dq];omega)]
def I7:Nat→Bool→List UInt8→Rs
 |0,q,t=>if Df q t=true then .deep 0 else .ok 0
 |lv+1,q,t=>
  if Df q t=true then
   if t.take 1=[92]then(if t.length<2 then .more else .ok 2)
   else if t.take 1=[96]then(BT 96 true (t.drop 1)).add 1
   else if t.take 1=[39]then(BT 39 false (t.drop 1)).add 1
   else if t.take 1=[34]then(Dw (I7 lv true) 34 [39] t.length 0 (t.drop 1)).add 1
   else if t.take 3=[36,40,40]then(Bn 0 (t.drop 3)).add 3
   else if t.take 2=[36,40]then(Dw (I7 lv false) 41 [] t.length 0 (t.drop 2)).add 2
   else if q=true then(Dw (I7 lv true) 125 [39] t.length 0 (t.drop 2)).add 2
   else(Dw (I7 lv false) 125 [] t.length 0 (t.drop 2)).add 2
  else .ok 0
theorem SL: ∀(lv:Nat) (q:Bool),I7 lv q=Ac lv q:=by
 intro lv;induction lv with
 |zero=>intro q;rfl
 |succ lv ih=>
  intro q;funext t
  unfold I7 Ac;rw[ih,ih,Gf _ _ _ _ _ _ (by rw[Dq];omega),Gf _ _ _ _ _ _ (by rw[Dq];omega),Gf _ _ _ _ _ _ (by rw[Dq];omega),Gf _ _ _ _ _ _ (by rw[Dq];omega)]
def Oj:Nat→List UInt8→Rs
 |0,_=> .ok 0
 |_+1,[]=> .ok 0
 |f+1,c::r=>
  if C3 DA c=true then .ok 0
  else match I7 25 false (c::r)with
   | .more=> .more
   | .deep a=> .deep a
   | .ok n=>(Oj f (r.drop (n-1))).add (max n 1)
theorem Rn: ∀(f:Nat) (t:List UInt8),t.length≤f→Oj f t=De t:=by
 intro f;induction f with
 |zero=>
  intro t h;have:t=[]:=List.length_eq_zero_iff.1 (by omega);subst this;rw[Fi];rfl
 |succ f ih=>
  intro t h;cases t with
  |nil=>rw[Fi];rfl
  |cons c r=>
   rw[BP]at h;rw[Et,←SL];show(if C3 DA c=true then Rs.ok 0
    else match I7 25 false (c::r)with
     | .more=>Rs.more
     | .deep a=>Rs.deep a
     | .ok n=>(Oj f (r.drop (n-1))).add (max n 1))=_
   cases z:I7 25 false (c::r)with
   |more=>rfl
   |deep a=>rfl
   |ok n=>simp only[ih (r.drop (n-1)) (by rw[Dq];omega)]
def Jf:Nat→List UInt8→Nat
 |0,_=>0
 |_+1,[]=>0
 |f+1,c::r=>
  if c=32∨c=9 then 1+Jf f r
  else if(c::r).take 2=[92,10]then 2+Jf f (r.drop 1)
  else if c=35 then((c::r).takeWhile (· !=10)).length
  else 0
theorem LU: ∀(f:Nat) (t:List UInt8),t.length≤f→Jf f t=A4 t:=by
 intro f;induction f with
 |zero=>
  intro t h;have:t=[]:=List.length_eq_zero_iff.1 (by omega);subst this;rw[Dv];rfl
 |succ f ih=>
  intro t h;cases t with
  |nil=>rw[Dv];rfl
  |cons c r=>
   rw[BP]at h;rw[Cp,←ih r (by omega),←ih (r.drop 1) (by rw[Dq];omega)];rfl
def NB (t:List UInt8):Nx:=if DT t≠[]then .tok 2 (DT t)else match Oj t.length t with
 | .ok n=> .tok (if Nq t n=true then 3 else 1) (t.take n)
 | .more=> .more
 | .deep a=> .deep a
theorem RW (t:List UInt8):NB t=CX t:=by
 unfold NB CX;rw[Rn _ _ (BL _)];rfl
def goN (l:List UInt8):Nat→Nat→List AX→Ar
 |0,_,h=> .ok h
 |f+1,i,h=>if i<l.length then(if h.length=400 then .err i 12 else match NB (l.drop i)with
  | .tok k s=>goN l f (i+s.length+Jf l.length (l.drop (i+s.length))) (h++[⟨k,s,i⟩])
  | .more=> .err l.length 23
  | .deep a=> .err ((i:Int)+a) 17)else .ok h
theorem VQ (l:List UInt8): ∀(f i:Nat) (h:List AX),goN l f i h=Dk l f i h:=by
 intro f;induction f with
 |zero=>intro i h;rfl
 |succ f ih=>
  intro i h;rw[Eo,←RW];show(if i<l.length then(if h.length=400 then Ar.err i 12 else match NB (l.drop i)with
   | .tok k s=>goN l f (i+s.length+Jf l.length (l.drop (i+s.length))) (h++[AX.mk k s i])
   | .more=>Ar.err l.length 23
   | .deep a=>Ar.err ((i:Int)+a) 17)else Ar.ok h)=_
  cases z:NB (l.drop i)with
  |tok k s=>
   simp only;rw[ih,LU _ _ (by rw[Dq];omega)]
  |more=>rfl
  |deep a=>rfl
def UA (l:List UInt8):Ar:=KE l (goN l (l.length+1) (Jf l.length l) [])
theorem Kp (l:List UInt8) (h: ¬4096<l.length):Fp l=KE l (Dk l (l.length+1) (A4 l) []):=by
 unfold Fp;rw[U h];cases Dk l (l.length+1) (A4 l) []<;>rfl
theorem So (l:List UInt8) (h: ¬4096<l.length):Fp l=UA l:=by
 rw[Kp l h];unfold UA;rw[VQ,LU _ _ (BL _)]
theorem Sx (l:List UInt8) (w:World) (z:l.length≤9223372036854775807):Calls Tryz.prog 27 #[sv l] w fun e w'=>DK w l (Fp l) e w':=by
 by_cases h:4096<l.length
 ·have:Fp l=.err 0 10:=(by unfold Fp;rw[Ah h]);rw[this];exact Rw l w h z
 ·rw[Kp l h];exact PU l w (by omega) _ rfl
end
end Go.Proofs.YtdhfhphbkfgamaaGreat.Lx
