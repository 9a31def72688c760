/- A part. -/
import Derived.Test.YtdhfhphbkfgamaaGreatXd
set_option maxRecDepth 100000
set_option linter.all false
set_option maxHeartbeats 0
namespace Go.Proofs.YtdhfhphbkfgamaaGreat.Lx
open Go.RowKit Proofs.Tryz
structure YT(w w':World)(v:Value)(l:List AY):Prop where
 own:Own w' 69 3 v l.length (Jo l) 0
 new:∀b,v.ownBlock=some b->w.heap.size+6<=b
structure LV(w w':World)(l:List UInt8)(v:Value)(acc:List AY):Prop where
 b2:Y w' w.heap.size 60 #[v]
 b3:Y w' (w.heap.size+1) 3 #[.int .i64 0]
 b4:Y w' (w.heap.size+1+1) 44 #[.int .i64 0]
 b5:Y w' (w.heap.size+1+1+1) 95 #[.int .i64 0,.int .i64 0]
 b6:CB w' (w.heap.size+1+1+1+1) l 0
 tk:Own w' 69 3 v acc.length (Jo acc) 0
 new:∀b,v.ownBlock=some b->w.heap.size+1+1+1+1+1<=b
 gr:w.grownBy w' none
theorem FA(l:List UInt8)(f i:Nat)(h:List AY):D3 l (f+1) i h=if i<l.length then(if h.length=400 then .err i 12 else match Ce (l.drop i)with
 | .tok k s=>D3 l f (i+s.length+A6 (l.drop (i+s.length))) (h++[⟨k,s,i⟩])
 | .more=> .err l.length 23
 | .deep a=> .err ((i:Int)+a) 17)else .ok h:=rfl
structure Jq(w w':World)(v:Value):Prop where
 b2:Y w' w.heap.size 60 #[v]
 b3:Y w' (w.heap.size+1) 3 #[.int .i64 0]
 b4:Y w' (w.heap.size+1+1) 44 #[.int .i64 0]
 b5:Y w' (w.heap.size+1+1+1) 95 #[.int .i64 0,.int .i64 0]
 gr:w.grownBy w' none
theorem Jq.grown{w G I:World}{l:List UInt8}{v:Value}{J:List AY}(h:LV w G l v J)(z:G.grownBy I (some (w.heap.size+1+1+1+1))):Jq w I v:=by
 have F:∀k,k≠w.heap.size+1+1+1+1->some k≠some (w.heap.size+1+1+1+1):=fun k hk e=>hk (by injection e)
 exact⟨Y.grown h.b2 z (F _ (by omega)),Y.grown h.b3 z (F _ (by omega)),Y.grown h.b4 z (F _ (by omega)),Y.grown h.b5 z (F _ (by omega)),Em h.gr (by omega) z⟩
theorem KE:(prog.info? 69).map (fun i=>(i.zero,i.size,i.bytes))=some (some (.agg #[.int .i64 0,.string ⟨#[]⟩,.int .i64 0]),3,32):=by kernel_rfl
theorem LV.grown{w I F:World}{l:List UInt8}{v:Value}{J:List AY}(h:LV w I l v J)(z:I.grownBy F (some (w.heap.size+1+1+1+1)))(K:CB F (w.heap.size+1+1+1+1) l 0):LV w F l v J:=by
 have G:∀k,k≠w.heap.size+1+1+1+1->some k≠some (w.heap.size+1+1+1+1):=fun k hk e=>hk (by injection e)
 refine⟨Y.grown h.b2 z (G _ (by omega)),Y.grown h.b3 z (G _ (by omega)),Y.grown h.b4 z (G _ (by omega)),Y.grown h.b5 z (G _ (by omega)),K,?_,h.new,Em h.gr (by omega) z⟩;exact h.tk.Bo (Az.AL z (fun k hk=>by injection hk with hk;exact hk.symm):Az (YB (w.heap.size+1+1+1+1)) I F) (fun b L e=>by have:=h.new b L;have:b=w.heap.size+1+1+1+1:=e;omega)
def LS(l:List UInt8):Ar->Ar
 | .ok h=> .ok (h++[⟨4,[],l.length⟩])
 | .err a e=> .err a e
def DV(w:World)(l:List UInt8):Ar->Ending->World->Prop
 | .ok h,e,w'=>(∃v,e=.returned (.tuple #[v,.int .i64 0,.int .i64 0])/\Own w' 69 3 v h.length (Jo h) 0/\ ∀b,v.ownBlock=some b->w.heap.size<=b)/\w.grownBy w' none
 | .err a k,e,w'=>e=.returned (.tuple #[.slice none 0 0,.int .i64 a,.int .i64 k])/\w.grownBy w' none
theorem Kh{w:World}{a b c:Nat}{v x y:Value}(z:w.cell? ⟨a,0,none⟩=some v)(F:w.cell? ⟨b,0,none⟩=some x)(G:w.cell? ⟨c,0,none⟩=some y){h:Array Value}(t2:h.getD 2 undef=.pointer (some ⟨a,0,none⟩))(t3:h.getD 3 undef=.pointer (some ⟨b,0,none⟩))(t4:h.getD 4 undef=.pointer (some ⟨c,0,none⟩)):
  (results Tryz.f27 h).run prog w=.ok (.tuple #[v,x,y]) w:=by
 have I:h[2]?.getD undef=.pointer (some ⟨a,0,none⟩):=(by simpa using t2);have J:h[3]?.getD undef=.pointer (some ⟨b,0,none⟩):=(by simpa using t3);have K:h[4]?.getD undef=.pointer (some ⟨c,0,none⟩):=(by simpa using t4);simp[results,Tryz.results27,go_sem,I,J,K,z,F,G]
theorem Rl(l:List UInt8)(w:World)(z:4096<l.length)(F:l.length<=9223372036854775807):Calls prog 27 #[sv l] w fun e w'=>DV w l (.err 0 10) e w':=by
 have G:∀(fn:Fn) (first h:Array Value) (w:World),(Instr.makeFunc fn first h).run prog w=.ok (.func fn first h) w:=fun _ _ _ _=>rfl
 have I:=sz l;have q:decide ((4096:Int)<(l.length:Int))=true:=Au (by omega);unfold sv DV;go_enter_defers func27,ntmps27
 go_wp2
 simp[Leaves,settle,results,Tryz.results27,go_sem,bodyPostD];exact AF (AF (AF (AB w none) _) _) _
theorem QX(l:List UInt8)(w:World)(bE:l.length<=4096)(R:Ar)(aK:D3 l (l.length+1) (A6 l) []=R):Calls prog 27 #[sv l] w fun e w'=>DV w l (LS l R) e w':=by
 have bF:∀(fn:Fn) (first ae:Array Value) (w:World),(Instr.makeFunc fn first ae).run prog w=.ok (.func fn first ae) w:=fun _ _ _ _=>rfl
 have bG:=sz l;have q:decide ((4096:Int)<(l.length:Int))=false:=As (by omega);have aZ:=Z aK;clear aK;obtain⟨a0,ap⟩:=U (((((w.alloc (.cells #[.slice none 0 0] 60)).alloc (.cells #[.int .i64 0] 3)).alloc (.cells #[.int .i64 0] 44)).alloc (.cells #[.int .i64 0,.int .i64 0] 95)).alloc (.cells #[sv l,.int .i64 0] 100));have aN:LV w a0 l (.slice none 0 0) []:=by
  rw[<-ap];refine⟨((((Y.new w 60 _).alloc _).alloc _).alloc _).alloc _,?_,?_,?_,?_,Own.nil _ _ _ _,fun b G=>by simp[Value.ownBlock]at G,AF (AF (AF (AF (AF (AB w none) _) _) _) _) _⟩
  ·have:=(((Y.new (w.alloc (.cells #[.slice none 0 0] 60)) 3 #[.int .i64 0]).alloc (.cells #[.int .i64 0] 44)).alloc (.cells #[.int .i64 0,.int .i64 0] 95)).alloc (.cells #[sv l,.int .i64 0] 100);rwa [BW]at this
  ·have:=((Y.new ((w.alloc (.cells #[.slice none 0 0] 60)).alloc (.cells #[.int .i64 0] 3)) 44 #[.int .i64 0]).alloc (.cells #[.int .i64 0,.int .i64 0] 95)).alloc (.cells #[sv l,.int .i64 0] 100);rwa [BW,BW]at this
  ·have:=(Y.new (((w.alloc (.cells #[.slice none 0 0] 60)).alloc (.cells #[.int .i64 0] 3)).alloc (.cells #[.int .i64 0] 44)) 95 #[.int .i64 0,.int .i64 0]).alloc (.cells #[sv l,.int .i64 0] 100);rwa [BW,BW,BW]at this
  ·have:=Y.new ((((w.alloc (.cells #[.slice none 0 0] 60)).alloc (.cells #[.int .i64 0] 3)).alloc (.cells #[.int .i64 0] 44)).alloc (.cells #[.int .i64 0,.int .i64 0] 95)) 100 #[sv l,.int .i64 0];rwa [BW,BW,BW,BW]at this
 have a1:=Z aN;have G:=MU (w.heap.size+1+1+1+1) 0 0 l a0 aN.b6 (DD _) (by omega);rw[List.drop_zero]at G;unfold sv at ap⊢;rw[<-ap]at G;have be:=Z G;have bf:=Z ap;clear G aN ap;go_enter_defers func27,ntmps27
 go_wp2_with fail;refine be.out.mono ?_;rintro e bH ⟨rfl,rfl⟩;rw[bf.out];go_wp2_with fail;go_loopw [7] (fun aO wr=> ∃(aq i:Nat) (h:List AY) (v:Value),aO=.int .i64 i/\i<=l.length/\l.length<i+aq/\h.length<=400/\LV w wr l v h/\A6 (l.drop i)=0/\D3 l aq i h=R) (fun aO _=>l.length+1-(intOf aO).toNat);case atStart=>exact⟨l.length+1,A6 l,[],_,by simp,Gt _ l rfl,by omega,by simp,a1.out,D5 _ l rfl,aZ.out⟩
 case round=>
  obtain⟨aq,i,h,v,rfl,a2,bI,bJ,aL,a3,a4⟩:=hrel;have F:=Z aL;have aP:=Z a4;have bg:=Z a3;obtain⟨al,ae,rfl,bK,bL⟩:=aL.tk.form;have bM:=Y.cell aL.b2 0;clear aL a4 a3 a1 aZ;obtain⟨f,rfl⟩:∃f,aq=f+1:=⟨aq-1,by omega⟩;by_cases ar:i<l.length
  ·have bh:decide ((i:Int)<(l.length:Int))=true:=Au (by omega);by_cases W:h.length=400
   ·have au:=Z (show R=.err i 12 by rw[<-aP.out,FA,Ai ar,Ai W]);have bi:((h.length:Int)==400)=true:=(by rw[DQ];omega);go_wp2_with fail;refine leaves_cons (f:=57) (args:=#[.pointer (some ⟨w.heap.size+1+1+1,0,none⟩)]) (by simp) (by simp[go_sem]) ?_;refine(Gz (w.heap.size+1+1+1) i 12 0 0 _ F.out.b5).mono ?_;rintro aw am ax ⟨rfl,rfl,ay,M⟩;have N:∀k,k≠w.heap.size+1+1+1->some k≠some (w.heap.size+1+1+1):=fun k hk e=>hk (by injection e)
    have ag:=Y.grown F.out.b2 M (N _ (by omega));have ah:=Y.grown F.out.b3 M (N _ (by omega));have W:=Y.grown F.out.b4 M (N _ (by omega));have az:=Em F.out.gr (by omega) M;refine leaves_cons (f:=56) (args:=#[.pointer (some ⟨w.heap.size+1+1+1,0,none⟩),.pointer (some ⟨w.heap.size,0,none⟩),.pointer (some ⟨w.heap.size+1,0,none⟩),.pointer (some ⟨w.heap.size+1+1,0,none⟩)]) (by simp[settle,GP]) (by simp[go_sem]) ?_;refine(J4 (w.heap.size+1+1+1) w.heap.size (w.heap.size+1) (w.heap.size+1+1) i 12 _ 0 0 (by decide) _ _ ay ag ah W (by omega) (by omega) (by omega) (by omega) (by omega)).mono ?_;rintro aw am a5 ⟨rfl,rfl,rfl⟩;have X:=Y.cell (Y.Bi (Y.Bi (Y.AW ag 0 (.slice none 0 0)) (p:=⟨w.heap.size+1,0,none⟩) (by show w.heap.size≠w.heap.size+1;omega) (.int .i64 i)) (p:=⟨w.heap.size+1+1,0,none⟩) (by show w.heap.size≠w.heap.size+1+1;omega) (.int .i64 12)) 0;have aa:=Y.cell (Y.Bi (Y.AW (Y.Bi ah (p:=⟨w.heap.size,0,none⟩) (by show w.heap.size+1≠w.heap.size;omega) (.slice none 0 0)) 0 (.int .i64 i)) (p:=⟨w.heap.size+1+1,0,none⟩) (by show w.heap.size+1≠w.heap.size+1+1;omega) (.int .i64 12)) 0;have ab:=Y.cell (Y.AW (Y.Bi (Y.Bi W (p:=⟨w.heap.size,0,none⟩) (by show w.heap.size+1+1≠w.heap.size;omega) (.slice none 0 0)) (p:=⟨w.heap.size+1,0,none⟩) (by show w.heap.size+1+1≠w.heap.size+1;omega) (.int .i64 i)) 0 (.int .i64 12)) 0;have ac:=Af (Af (Af az (p:=⟨w.heap.size,0,none⟩) (BN _) (.slice none 0 0)) (p:=⟨w.heap.size+1,0,none⟩) (by show w.heap.size<=w.heap.size+1;omega) (.int .i64 i)) (p:=⟨w.heap.size+1+1,0,none⟩) (by show w.heap.size<=w.heap.size+1+1;omega) (.int .i64 12);generalize ((ax.setCell ⟨w.heap.size,0,none⟩ (.slice none 0 0)).setCell ⟨w.heap.size+1,0,none⟩ (.int .i64 i)).setCell ⟨w.heap.size+1+1,0,none⟩ (.int .i64 12)=aQ at X aa ab ac⊢;simp[Leaves,settle,GP];exact⟨_,Kh X aa ab rfl rfl rfl,by rw[au.out];exact⟨rfl,ac⟩⟩
   have bi:((h.length:Int)==400)=false:=(by rw[A4];omega);have J:=Et (w.heap.size+1+1+1+1) i l wr F.out.b6 ar (by omega);have ai:D3 l (f+1) i h=match Ce (l.drop i)with
    | .tok k s=>D3 l f (i+s.length+A6 (l.drop (i+s.length))) (h++[⟨k,s,i⟩])
    | .more=> .err l.length 23
    | .deep a=> .err ((i:Int)+a) 17:=by rw[FA,Ai ar,AP W]
   have aA:=fun k s (I:Ce (l.drop i)=.tok k s)=>Jj (KW ar) bg.out I
   obtain⟨bj,aM⟩:=U (Ce (l.drop i));rw[aM]at J ai aA;rw[aP.out]at ai;cases bj with
   |more=>
    have au:=Z (show R=.err l.length 23 from ai);unfold Hu at J;have aB:=Z J;clear J ai aA aM;go_wp2_with fail;refine aB.out.mono ?_;rintro e O ⟨rfl,aj⟩;have aC:Jq w O (.slice al h.length ae):=Jq.grown F.out aj;have z:=Z aC;clear aj aC;refine leaves_cons (f:=57) (args:=#[.pointer (some ⟨w.heap.size+1+1+1,0,none⟩)]) (by simp) (by simp[go_sem]) ?_;refine(Gz (w.heap.size+1+1+1) l.length 23 0 0 _ z.out.b5).mono ?_;rintro aw am ax ⟨rfl,rfl,ay,M⟩;have N:∀k,k≠w.heap.size+1+1+1->some k≠some (w.heap.size+1+1+1):=fun k hk e=>hk (by injection e)
    have ag:=Y.grown z.out.b2 M (N _ (by omega));have ah:=Y.grown z.out.b3 M (N _ (by omega));have W:=Y.grown z.out.b4 M (N _ (by omega));have az:=Em z.out.gr (by omega) M;refine leaves_cons (f:=56) (args:=#[.pointer (some ⟨w.heap.size+1+1+1,0,none⟩),.pointer (some ⟨w.heap.size,0,none⟩),.pointer (some ⟨w.heap.size+1,0,none⟩),.pointer (some ⟨w.heap.size+1+1,0,none⟩)]) (by simp[settle,GP]) (by simp[go_sem]) ?_;refine(J4 (w.heap.size+1+1+1) w.heap.size (w.heap.size+1) (w.heap.size+1+1) l.length 23 _ 0 0 (by decide) _ _ ay ag ah W (by omega) (by omega) (by omega) (by omega) (by omega)).mono ?_;rintro aw am a5 ⟨rfl,rfl,rfl⟩;have X:=Y.cell (Y.Bi (Y.Bi (Y.AW ag 0 (.slice none 0 0)) (p:=⟨w.heap.size+1,0,none⟩) (by show w.heap.size≠w.heap.size+1;omega) (.int .i64 l.length)) (p:=⟨w.heap.size+1+1,0,none⟩) (by show w.heap.size≠w.heap.size+1+1;omega) (.int .i64 23)) 0;have aa:=Y.cell (Y.Bi (Y.AW (Y.Bi ah (p:=⟨w.heap.size,0,none⟩) (by show w.heap.size+1≠w.heap.size;omega) (.slice none 0 0)) 0 (.int .i64 l.length)) (p:=⟨w.heap.size+1+1,0,none⟩) (by show w.heap.size+1≠w.heap.size+1+1;omega) (.int .i64 23)) 0;have ab:=Y.cell (Y.AW (Y.Bi (Y.Bi W (p:=⟨w.heap.size,0,none⟩) (by show w.heap.size+1+1≠w.heap.size;omega) (.slice none 0 0)) (p:=⟨w.heap.size+1,0,none⟩) (by show w.heap.size+1+1≠w.heap.size+1;omega) (.int .i64 l.length)) 0 (.int .i64 23)) 0;have ac:=Af (Af (Af az (p:=⟨w.heap.size,0,none⟩) (BN _) (.slice none 0 0)) (p:=⟨w.heap.size+1,0,none⟩) (by show w.heap.size<=w.heap.size+1;omega) (.int .i64 l.length)) (p:=⟨w.heap.size+1+1,0,none⟩) (by show w.heap.size<=w.heap.size+1+1;omega) (.int .i64 23);generalize ((ax.setCell ⟨w.heap.size,0,none⟩ (.slice none 0 0)).setCell ⟨w.heap.size+1,0,none⟩ (.int .i64 l.length)).setCell ⟨w.heap.size+1+1,0,none⟩ (.int .i64 23)=aQ at X aa ab ac⊢;simp[Leaves,settle,GP];exact⟨_,Kh X aa ab rfl rfl rfl,by rw[au.out];exact⟨rfl,ac⟩⟩
   |deep a=>
    have au:=Z (show R=.err ((i:Int)+a) 17 from ai);unfold Hu at J;have aB:=Z J;clear J ai aA aM;go_wp2_with fail;refine aB.out.mono ?_;rintro e O ⟨rfl,aj⟩;have aC:Jq w O (.slice al h.length ae):=Jq.grown F.out aj;have z:=Z aC;clear aj aC;refine leaves_cons (f:=57) (args:=#[.pointer (some ⟨w.heap.size+1+1+1,0,none⟩)]) (by simp) (by simp[go_sem]) ?_;refine(Gz (w.heap.size+1+1+1) ((i:Int)+a) 17 0 0 _ z.out.b5).mono ?_;rintro aw am ax ⟨rfl,rfl,ay,M⟩;have N:∀k,k≠w.heap.size+1+1+1->some k≠some (w.heap.size+1+1+1):=fun k hk e=>hk (by injection e)
    have ag:=Y.grown z.out.b2 M (N _ (by omega));have ah:=Y.grown z.out.b3 M (N _ (by omega));have W:=Y.grown z.out.b4 M (N _ (by omega));have az:=Em z.out.gr (by omega) M;refine leaves_cons (f:=56) (args:=#[.pointer (some ⟨w.heap.size+1+1+1,0,none⟩),.pointer (some ⟨w.heap.size,0,none⟩),.pointer (some ⟨w.heap.size+1,0,none⟩),.pointer (some ⟨w.heap.size+1+1,0,none⟩)]) (by simp[settle,GP]) (by simp[go_sem]) ?_;refine(J4 (w.heap.size+1+1+1) w.heap.size (w.heap.size+1) (w.heap.size+1+1) ((i:Int)+a) 17 _ 0 0 (by decide) _ _ ay ag ah W (by omega) (by omega) (by omega) (by omega) (by omega)).mono ?_;rintro aw am a5 ⟨rfl,rfl,rfl⟩;have X:=Y.cell (Y.Bi (Y.Bi (Y.AW ag 0 (.slice none 0 0)) (p:=⟨w.heap.size+1,0,none⟩) (by show w.heap.size≠w.heap.size+1;omega) (.int .i64 ((i:Int)+a))) (p:=⟨w.heap.size+1+1,0,none⟩) (by show w.heap.size≠w.heap.size+1+1;omega) (.int .i64 17)) 0;have aa:=Y.cell (Y.Bi (Y.AW (Y.Bi ah (p:=⟨w.heap.size,0,none⟩) (by show w.heap.size+1≠w.heap.size;omega) (.slice none 0 0)) 0 (.int .i64 ((i:Int)+a))) (p:=⟨w.heap.size+1+1,0,none⟩) (by show w.heap.size+1≠w.heap.size+1+1;omega) (.int .i64 17)) 0;have ab:=Y.cell (Y.AW (Y.Bi (Y.Bi W (p:=⟨w.heap.size,0,none⟩) (by show w.heap.size+1+1≠w.heap.size;omega) (.slice none 0 0)) (p:=⟨w.heap.size+1,0,none⟩) (by show w.heap.size+1+1≠w.heap.size+1;omega) (.int .i64 ((i:Int)+a))) 0 (.int .i64 17)) 0;have ac:=Af (Af (Af az (p:=⟨w.heap.size,0,none⟩) (BN _) (.slice none 0 0)) (p:=⟨w.heap.size+1,0,none⟩) (by show w.heap.size<=w.heap.size+1;omega) (.int .i64 ((i:Int)+a))) (p:=⟨w.heap.size+1+1,0,none⟩) (by show w.heap.size<=w.heap.size+1+1;omega) (.int .i64 17);generalize ((ax.setCell ⟨w.heap.size,0,none⟩ (.slice none 0 0)).setCell ⟨w.heap.size+1,0,none⟩ (.int .i64 ((i:Int)+a))).setCell ⟨w.heap.size+1+1,0,none⟩ (.int .i64 17)=aQ at X aa ab ac⊢;simp[Leaves,settle,GP];exact⟨_,Kh X aa ab rfl rfl rfl,by rw[au.out];exact⟨rfl,ac⟩⟩
   |tok k s=>
    obtain⟨bN,bk⟩:=aA k s rfl;rw[D8]at bk;have bl:=Z (show R=D3 l f (i+s.length+A6 (l.drop (i+s.length))) (h++[⟨k,s,i⟩])from ai);unfold Hu sv at J;have aB:=Z J;have bO:=sz s;clear J ai aA aM;go_wp2_with fail;refine aB.out.mono ?_;rintro e O ⟨rfl,aj,a6⟩;have z:=Z (F.out.grown aj a6);have bP:=Y.cell z.out.b2 0;have bQ:=Y.frozen z.out.b2 0;have bR:=Y.lt z.out.b2;have aD:=(z.out.tk.alloc (.cells #[.int .i64 k,.string ⟨s.toArray⟩,.int .i64 i] 69)).alloc (.cells #[.int .i64 k,.string ⟨s.toArray⟩,.int .i64 i] 69);have ao:=Own.made (O.alloc (.cells #[.int .i64 k,.string ⟨s.toArray⟩,.int .i64 i] 69)) #[.int .i64 k,.string ⟨s.toArray⟩,.int .i64 i] 69 3 1 0 rfl (by unfold maxLen;omega);rw[BW]at ao;have aE:=Own.src (P:=prog) (tx:=60) (e':=69) ao (by kernel_rfl) (by
     intro u aF;simp only[List.mem_cons,List.not_mem_nil,or_false]at aF;rcases aF with rfl|rfl|rfl<;>rfl)
    have a7:Y ((O.alloc (.cells #[.int .i64 k,.string ⟨s.toArray⟩,.int .i64 i] 69)).alloc (.cells #[.int .i64 k,.string ⟨s.toArray⟩,.int .i64 i] 69)) O.heap.size 69 #[.int .i64 k,.string ⟨s.toArray⟩,.int .i64 i]:=(Y.new O 69 _).alloc _;have a8:∀b,(Value.slice al h.length ae).ownBlock=some b->b<O.heap.size:=fun b G=>z.out.tk.lt G
    have aR:=Z aD;have aS:=Z aE;have bm:=Z a7;have bn:=Z a8;have bS:¬O.heap.size=w.heap.size:=(by omega);clear aD aE ao a7 a8 aj a6;go_wp2_with (at_builtin;refine AV 69 (.agg #[.int .i64 0,.string ⟨#[]⟩,.int .i64 0]) 3 32 underlying60 KE rfl (.slice al h.length ae) h.length (Jo h) 0 _ 1 [.int .i64 k,.string ⟨s.toArray⟩,.int .i64 i] rfl rfl aR.out (by omega) aS.out (by unfold maxLen;omega) (by omega) ?_;intro bo w' an ad J _;obtain⟨K,L,rfl,_,_⟩:=Own.form an;(have aT:=Z an);(have af:Y w' w.heap.size 60 #[.slice al h.length ae]:=Y.Bo ((z.out.b2.alloc _).alloc _) ad (fun e=>by have:=z.out.new _ e;omega));(have bp:=Y.cell af 0);(have bq:=Y.frozen af 0);(have br:=Y.lt af);(have a9:Y w' O.heap.size 69 #[.int .i64 k,.string ⟨s.toArray⟩,.int .i64 i]:=Y.Bo bm.out ad (fun e=>by have:=bn.out _ e;omega));(have bT:=Y.cell a9 1);(have aG:=Z ad);(have aU:=Z J);clear an ad J af a9);have ak:∀b,(Value.slice K (h.length+1) L).ownBlock=some b->w.heap.size+1+1+1+1+1<=b:=by
     intro b G;have bs:=Y.lt z.out.b6;rcases aU.out b G with I|I
     ·exact z.out.new b I
     ·rw[BW,BW]at I;omega
    have aH:∀ {g:Nat} {T:TypeId} {a':Array Value},Y O g T a'->g≠w.heap.size->g<=w.heap.size+1+1+1+1->Y (w'.setCell ⟨w.heap.size,0,none⟩ (.slice K (h.length+1) L)) g T a':=fun bt N bU=>Y.Bi (Y.Bo ((Y.alloc (Y.alloc bt _) _)) aG.out (fun e=>by have:=z.out.new _ e;omega)) (by show _≠w.heap.size;exact N) _
    have ba:Y (w'.setCell ⟨w.heap.size,0,none⟩ (.slice K (h.length+1) L)) w.heap.size 60 #[.slice K (h.length+1) L]:=Y.AW (Y.Bo ((z.out.b2.alloc _).alloc _) aG.out (fun e=>by have:=z.out.new _ e;omega)) 0 _;have aV:LV w (w'.setCell ⟨w.heap.size,0,none⟩ (.slice K (h.length+1) L)) l (.slice K (h.length+1) L) (h++[⟨k,s,i⟩]):=by
     refine⟨ba,aH z.out.b3 (by omega) (by omega),aH z.out.b4 (by omega) (by omega),aH z.out.b5 (by omega) (by omega),aH z.out.b6 (by omega) (by omega),?_,ak,?_⟩
     ·rw[BG,LH];exact Own.Bi (p:=⟨w.heap.size,0,none⟩) aT.out (fun e=>by have aW:w.heap.size+1+1+1+1+1<=w.heap.size:=ak _ e;omega) _
     ·exact(((((Az.AL z.out.gr (fun _ I=>by cases I):Az EH w O).alloc _).alloc _).trans aG.out (fun i a2 G=>by have:=z.out.new i G;omega)).setCell (p:=⟨w.heap.size,0,none⟩) (.inr (BN _)) _).grown (fun _ _ I=>I)
    have bu:=Z aV;have aX:=MU (w.heap.size+1+1+1+1) 0 (i+s.length) l _ aV.b6 (by omega) (by omega);rw[show(((i+s.length:Nat)):Int)=(i:Int)+s.length by omega]at aX;have bv:=Z aX;have bw:=Gt _ (l.drop (i+s.length)) rfl;have aY:=D5 _ (l.drop (i+s.length)) rfl;rw[List.drop_drop]at aY;rw[D8]at bw;have bx:=Z aY;clear aV aX ba aH ak aY;go_wp2_with fail;refine bv.out.mono ?_;rintro e bV ⟨rfl,rfl⟩;go_wp2_with fail;go_roundw;case rel=>exact⟨f,i+s.length+A6 (l.drop (i+s.length)),h++[⟨k,s,i⟩],_,by go_num,by omega,by omega,by rw[BG];simp;omega,bu.out,bx.out,bl.out.symm⟩
    case measure=>simp[intOf];omega
  ·have bh:decide ((i:Int)<(l.length:Int))=false:=As (by omega);have aK:R=.ok h:=(by rw[<-aP.out,FA,AP ar]);subst aK;have c3:=Y.cell F.out.b3 0;have c4:=Y.cell F.out.b4 0;have aD:=F.out.tk.alloc (.cells #[.int .i64 4,.string ⟨#[]⟩,.int .i64 l.length] 69);have ao:=Own.made wr #[.int .i64 4,.string ⟨#[]⟩,.int .i64 l.length] 69 3 1 0 rfl (by unfold maxLen;omega);have aE:=Own.src (P:=prog) (tx:=60) (e':=69) ao (by kernel_rfl) (by
    intro u aF;simp only[List.mem_cons,List.not_mem_nil,or_false]at aF;rcases aF with rfl|rfl|rfl<;>rfl)
   have aR:=Z aD;have aS:=Z aE;clear aD aE ao c3 c4;go_wp2_with (at_builtin;refine AV 69 (.agg #[.int .i64 0,.string ⟨#[]⟩,.int .i64 0]) 3 32 underlying60 KE rfl (.slice al h.length ae) h.length (Jo h) 0 _ 1 [.int .i64 4,.string ⟨#[]⟩,.int .i64 l.length] rfl rfl aR.out (by omega) aS.out (by unfold maxLen;omega) (by omega) ?_;intro bo w' an ad J _;obtain⟨K,L,rfl,_,_⟩:=Own.form an;(have aT:=Z an);(have af:Y w' w.heap.size 60 #[.slice al h.length ae]:=Y.Bo (F.out.b2.alloc _) ad (fun e=>by have:=F.out.new _ e;omega));(have aI:Y w' (w.heap.size+1) 3 #[.int .i64 0]:=Y.Bo (F.out.b3.alloc _) ad (fun e=>by have:=F.out.new _ e;omega));(have aJ:Y w' (w.heap.size+1+1) 44 #[.int .i64 0]:=Y.Bo (F.out.b4.alloc _) ad (fun e=>by have:=F.out.new _ e;omega));(have bb:Y w' (w.heap.size+1+1+1) 95 #[.int .i64 0,.int .i64 0]:=Y.Bo (F.out.b5.alloc _) ad (fun e=>by have:=F.out.new _ e;omega));(have bz:=Z af);(have bA:=Z aI);(have bB:=Z aJ);(have bC:=Z bb);(have bp:=Y.cell af 0);(have bq:=Y.frozen af 0);(have br:=Y.lt af);(have bW:=Y.cell aI 0);(have bX:=Y.frozen aI 0);(have bY:=Y.lt aI);(have bZ:=Y.cell aJ 0);(have b0:=Y.frozen aJ 0);(have b1:=Y.lt aJ);(have aG:=Z ad);(have aU:=Z J);clear an ad J af aI aJ bb);have ak:∀b,(Value.slice K (h.length+1) L).ownBlock=some b->w.heap.size+1+1+1+1+1<=b:=by
    intro b G;have bs:=Y.lt F.out.b6;rcases aU.out b G with I|I
    ·exact F.out.new b I
    ·rw[BW]at I;omega
   have X:=Y.Bi (Y.Bi (Y.AW bz.out 0 (.slice K (h.length+1) L)) (p:=⟨w.heap.size+1,0,none⟩) (by show w.heap.size≠w.heap.size+1;omega) (.int .i64 0)) (p:=⟨w.heap.size+1+1,0,none⟩) (by show w.heap.size≠w.heap.size+1+1;omega) (.int .i64 0);have aa:=Y.Bi (Y.AW (Y.Bi bA.out (p:=⟨w.heap.size,0,none⟩) (by show w.heap.size+1≠w.heap.size;omega) (.slice K (h.length+1) L)) 0 (.int .i64 0)) (p:=⟨w.heap.size+1+1,0,none⟩) (by show w.heap.size+1≠w.heap.size+1+1;omega) (.int .i64 0);have ab:=Y.AW (Y.Bi (Y.Bi bB.out (p:=⟨w.heap.size,0,none⟩) (by show w.heap.size+1+1≠w.heap.size;omega) (.slice K (h.length+1) L)) (p:=⟨w.heap.size+1,0,none⟩) (by show w.heap.size+1+1≠w.heap.size+1;omega) (.int .i64 0)) 0 (.int .i64 0);have bc:=Y.Bi (Y.Bi (Y.Bi bC.out (p:=⟨w.heap.size,0,none⟩) (by show w.heap.size+1+1+1≠w.heap.size;omega) (.slice K (h.length+1) L)) (p:=⟨w.heap.size+1,0,none⟩) (by show w.heap.size+1+1+1≠w.heap.size+1;omega) (.int .i64 0)) (p:=⟨w.heap.size+1+1,0,none⟩) (by show w.heap.size+1+1+1≠w.heap.size+1+1;omega) (.int .i64 0);have bd:=Own.Bi (p:=⟨w.heap.size+1+1,0,none⟩) (Own.Bi (p:=⟨w.heap.size+1,0,none⟩) (Own.Bi (p:=⟨w.heap.size,0,none⟩) aT.out (fun e=>by have aW:w.heap.size+1+1+1+1+1<=w.heap.size:=ak _ e;omega) (.slice K (h.length+1) L)) (fun e=>by have aW:w.heap.size+1+1+1+1+1<=w.heap.size+1:=ak _ e;omega) (.int .i64 0)) (fun e=>by have aW:w.heap.size+1+1+1+1+1<=w.heap.size+1+1:=ak _ e;omega) (.int .i64 0);have ac:w.grownBy _ none:=((((((Az.AL F.out.gr (fun _ I=>by cases I):Az EH w wr).alloc _).trans aG.out (fun i a2 G=>by have:=F.out.new i G;omega)).setCell (p:=⟨w.heap.size,0,none⟩) (.inr (BN _)) (.slice K (h.length+1) L)).setCell (p:=⟨w.heap.size+1,0,none⟩) (.inr (by show w.heap.size<=w.heap.size+1;omega)) (.int .i64 0)).setCell (p:=⟨w.heap.size+1+1,0,none⟩) (.inr (by show w.heap.size<=w.heap.size+1+1;omega)) (.int .i64 0)).grown (fun _ _ I=>I);refine leaves_cons (f:=57) (args:=#[.pointer (some ⟨w.heap.size+1+1+1,0,none⟩)]) (by simp) (by simp[go_sem]) ?_;refine(NV _ _).mono ?_;rintro e am bD ⟨rfl,rfl,rfl⟩;refine leaves_cons (f:=56) (args:=#[.pointer (some ⟨w.heap.size+1+1+1,0,none⟩),.pointer (some ⟨w.heap.size,0,none⟩),.pointer (some ⟨w.heap.size+1,0,none⟩),.pointer (some ⟨w.heap.size+1+1,0,none⟩)]) (by simp[settle]) (by simp[go_sem]) ?_;generalize ((w'.setCell ⟨w.heap.size,0,none⟩ (.slice K (h.length+1) L)).setCell ⟨w.heap.size+1,0,none⟩ (.int .i64 0)).setCell ⟨w.heap.size+1+1,0,none⟩ (.int .i64 0)=aQ at X aa ab bc bd ac⊢;refine(RY (w.heap.size+1+1+1) w.heap.size (w.heap.size+1) (w.heap.size+1+1) 0 _ _ bc).mono ?_;rintro e am bD ⟨rfl,rfl,rfl⟩;simp[Leaves,settle];refine⟨_,Kh (Y.cell X 0) (Y.cell aa 0) (Y.cell ab 0) rfl rfl rfl,⟨⟨_,rfl,?_,fun b G=>by have:=ak b G;omega⟩,ac⟩⟩;rw[BG,LH];exact bd
def D7(h:List UInt8->Rs)(e:UInt8)(z:List UInt8):Nat->Nat->List UInt8->Rs
 |0,_,_=> .more
 |_+1,_,[]=> .more
 |f+1,o,c::r=>
  if c=e then(if o=0 then .ok 1 else(D7 h e z f (o-1) r).add 1)
  else if e=41/\c=40 then(D7 h e z f (o+1) r).add 1
  else if DB z c=true then(D7 h e z f o r).add 1
  else match h (c::r)with
   | .more=> .more
   | .deep a=> .deep a
   | .ok n=>(D7 h e z f o (r.drop (n-1))).add (max n 1)
theorem Hj(h:List UInt8->Rs)(e:UInt8)(z:List UInt8):∀(f o:Nat) (t:List UInt8),t.length<=f->D7 h e z f o t=BL h e z o t:=by
 intro f;induction f with
 |zero=>
  intro o t F;have:t=[]:=List.length_eq_zero_iff.1 (by omega);subst this;rw[EZ];rfl
 |succ f ih=>
  intro o t F;cases t with
  |nil=>rw[EZ];rfl
  |cons c r=>
   rw[BR]at F;rw[FV];show(if c=e then(if o=0 then .ok 1 else(D7 h e z f (o-1) r).add 1)
    else if e=41/\c=40 then(D7 h e z f (o+1) r).add 1
    else if DB z c=true then(D7 h e z f o r).add 1
    else match h (c::r)with
     | .more=> .more
     | .deep a=> .deep a
     | .ok n=>(D7 h e z f o (r.drop (n-1))).add (max n 1))=_
   rw[ih _ r (by omega),ih _ r (by omega),ih _ r (by omega)];cases G:h (c::r)with
   |more=>rfl
   |deep a=>rfl
   |ok n=>simp only[ih _ (r.drop (n-1)) (by rw[D8];omega)]
def Ja:Nat->Bool->List UInt8->Rs
 |0,q,t=>if Dr q t=true then .deep 0 else .ok 0
 |lv+1,q,t=>
  if Dr q t=true then
   if t.take 1=[92]then(if t.length<2 then .more else .ok 2)
   else if t.take 1=[96]then(BV 96 true (t.drop 1)).add 1
   else if t.take 1=[39]then(BV 39 false (t.drop 1)).add 1
   else if t.take 1=[34]then(D7 (Ja lv true) 34 [39] t.length 0 (t.drop 1)).add 1
   else if t.take 3=[36,40,40]then(Bq 0 (t.drop 3)).add 3
   else if t.take 2=[36,40]then(D7 (Ja lv false) 41 [] t.length 0 (t.drop 2)).add 2
   else if q=true then(D7 (Ja lv true) 125 [39] t.length 0 (t.drop 2)).add 2
   else(D7 (Ja lv false) 125 [] t.length 0 (t.drop 2)).add 2
  else .ok 0
theorem Rj:∀(lv:Nat) (q:Bool),Ja lv q=Ad lv q:=by
 intro lv;induction lv with
 |zero=>intro q;rfl
 |succ lv ih=>
  intro q;funext t
  unfold Ja Ad;rw[ih,ih,Hj _ _ _ _ _ _ (by rw[D8];omega),Hj _ _ _ _ _ _ (by rw[D8];omega),Hj _ _ _ _ _ _ (by rw[D8];omega),Hj _ _ _ _ _ _ (by rw[D8];omega)]
def Pn:Nat->List UInt8->Rs
 |0,_=> .ok 0
 |_+1,[]=> .ok 0
 |f+1,c::r=>
  if DB DF c=true then .ok 0
  else match Ja 25 false (c::r)with
   | .more=> .more
   | .deep a=> .deep a
   | .ok n=>(Pn f (r.drop (n-1))).add (max n 1)
theorem Ro:∀(f:Nat) (t:List UInt8),t.length<=f->Pn f t=Dn t:=by
 intro f;induction f with
 |zero=>
  intro t h;have:t=[]:=List.length_eq_zero_iff.1 (by omega);subst this;rw[GG];rfl
 |succ f ih=>
  intro t h;cases t with
  |nil=>rw[GG];rfl
  |cons c r=>
   rw[BR]at h;rw[FK,<-Rj];show(if DB DF c=true then Rs.ok 0
    else match Ja 25 false (c::r)with
     | .more=>Rs.more
     | .deep a=>Rs.deep a
     | .ok n=>(Pn f (r.drop (n-1))).add (max n 1))=_
   cases z:Ja 25 false (c::r)with
   |more=>rfl
   |deep a=>rfl
   |ok n=>simp only[ih (r.drop (n-1)) (by rw[D8];omega)]
def J1:Nat->List UInt8->Nat
 |0,_=>0
 |_+1,[]=>0
 |f+1,c::r=>
  if c=32\/c=9 then 1+J1 f r
  else if(c::r).take 2=[92,10]then 2+J1 f (r.drop 1)
  else if c=35 then((c::r).takeWhile (· !=10)).length
  else 0
theorem MI:∀(f:Nat) (t:List UInt8),t.length<=f->J1 f t=A6 t:=by
 intro f;induction f with
 |zero=>
  intro t h;have:t=[]:=List.length_eq_zero_iff.1 (by omega);subst this;rw[EC];rfl
 |succ f ih=>
  intro t h;cases t with
  |nil=>rw[EC];rfl
  |cons c r=>
   rw[BR]at h;rw[Cu,<-ih r (by omega),<-ih (r.drop 1) (by rw[D8];omega)];rfl
def Nr(t:List UInt8):Nx:=if De t≠[]then .tok 2 (De t)else match Pn t.length t with
 | .ok n=> .tok (if PB t n=true then 3 else 1) (t.take n)
 | .more=> .more
 | .deep a=> .deep a
theorem Ry(t:List UInt8):Nr t=Ce t:=by
 unfold Nr Ce;rw[Ro _ _ (BN _)];rfl
def goN(l:List UInt8):Nat->Nat->List AY->Ar
 |0,_,h=> .ok h
 |f+1,i,h=>if i<l.length then(if h.length=400 then .err i 12 else match Nr (l.drop i)with
  | .tok k s=>goN l f (i+s.length+J1 l.length (l.drop (i+s.length))) (h++[⟨k,s,i⟩])
  | .more=> .err l.length 23
  | .deep a=> .err ((i:Int)+a) 17)else .ok h
theorem Ve(l:List UInt8):∀(f i:Nat) (h:List AY),goN l f i h=D3 l f i h:=by
 intro f;induction f with
 |zero=>intro i h;rfl
 |succ f ih=>
  intro i h;rw[FA,<-Ry];show(if i<l.length then(if h.length=400 then Ar.err i 12 else match Nr (l.drop i)with
   | .tok k s=>goN l f (i+s.length+J1 l.length (l.drop (i+s.length))) (h++[AY.mk k s i])
   | .more=>Ar.err l.length 23
   | .deep a=>Ar.err ((i:Int)+a) 17)else Ar.ok h)=_
  cases z:Nr (l.drop i)with
  |tok k s=>
   simp only;rw[ih,MI _ _ (by rw[D8];omega)]
  |more=>rfl
  |deep a=>rfl
def TQ(l:List UInt8):Ar:=LS l (goN l (l.length+1) (J1 l.length l) [])
theorem Kv(l:List UInt8)(h:¬4096<l.length):GA l=LS l (D3 l (l.length+1) (A6 l) []):=by
 unfold GA;rw[AP h];cases D3 l (l.length+1) (A6 l) []<;>rfl
theorem UB(l:List UInt8)(h:¬4096<l.length):GA l=TQ l:=by
 rw[Kv l h];unfold TQ;rw[Ve,MI _ _ (BN _)]
theorem UW(l:List UInt8)(w:World)(z:l.length<=9223372036854775807):Calls prog 27 #[sv l] w fun e w'=>DV w l (GA l) e w':=by
 by_cases h:4096<l.length
 ·have:GA l=.err 0 10:=(by unfold GA;rw[Ai h]);rw[this];exact Rl l w h z
 ·rw[Kv l h];exact QX l w (by omega) _ rfl
end Go.Proofs.YtdhfhphbkfgamaaGreat.Lx
