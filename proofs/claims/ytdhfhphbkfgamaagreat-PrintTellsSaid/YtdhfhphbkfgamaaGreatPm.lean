/- PrintTells: a part of its proof. -/
import Derived.Deep.CutBlock
import Derived.WalkMore
import Derived.Test.YtdhfhphbkfgamaaGreatPj
set_option maxRecDepth 100000
set_option maxHeartbeats 64000000
namespace Go.Proofs.YtdhfhphbkfgamaaGreat
open Go.RowKit Lx
theorem Du:(Tryz.prog.info? 9).map (fun i=>(i.zero,i.size,i.bytes))=some (some (.string ⟨#[]⟩),1,16):=by kernel_rfl
theorem Jd (W:World) (b:Nat) (x:List UInt8) (z:W.heap.size=b):Src Tryz.prog 1 27 (.slice (some ⟨b,0,none⟩) 1 1) 1 [sv x] (W.alloc (.cells #[.string ⟨x.toArray⟩] 9)):=by
 subst z;exact Own.src (P:=Tryz.prog) (tx:=27) (e':=9) (n:=1) (xs:=[sv x]) (k:=0) (e:=9) ⟨rfl,.inr ⟨W.heap.size,0,1,_,(0,0),rfl,Y.new W 9 _,BL _,BL _,by unfold maxLen;omega,by show 0+1*1≤1;omega,fun j G=>(by(have F:j=0:=by omega);subst F;rfl)⟩⟩ (by kernel_rfl) (by intro u h;simp at h;subst h;rfl)
theorem UW {w:World} {v:Value} {l:List Rd} (z:I4 w v l):Src Tryz.prog 3 28 v l.length (l.flatMap Rd.cells) w:=
 Own.src (P:=Tryz.prog) (tx:=28) (e':=34) (e:=34) z (by kernel_rfl) (by
  intro u h;rw[List.mem_flatMap]at h;obtain⟨x,_,h⟩:=h;simp only[Rd.cells,List.mem_cons,List.mem_nil_iff,or_false]at h;rcases h with rfl|rfl|rfl<;>rfl)
section
variable {av:Nat→Prop} {base:Nat→Prop} {rb d:Nat} {w W W' wA:World} {vn vt0:Value} {ts ts' ts0:List AX} {ns:List V}
theorem EJ.other (G:B8 av base w rb vt0 vn ts0 ns d) (h:EJ av base W rb vn ts ns d) (F:w.grownBy W (some rb)) {S:Nat→Prop} (z:Az S W W') (I: ∀k,S k→w.heap.size≤k) (K: ∀k,S k→ ¬Bk W k 69):EJ av base W' rb vn ts ns d∧w.grownBy W' (some rb):=by
 have X:=Y.lt G.BD;have J:w.grownBy W' (some rb):=⟨z.os.trans F.os,z.tape.trans F.tape,z.output.trans F.output,Ef F.size z.size,fun k hk M=>(z.block k (DP hk F.size) (fun e=>by have:=I k e;omega)).trans (F.block k hk M)⟩;obtain⟨N,h⟩:=h;exact⟨⟨N,G.back J (Y.Bl h.BD z (fun e=>by have:=I rb e;omega)) (h.tok.Bl z (fun g O e=>K g e (Own.AN h.tok O))) h.Aj h.Dy h.Kx⟩,J⟩
structure By (av:Nat→Prop) (base:Nat→Prop) (w W:World) (rb:Nat) (vn:Value) (ts:List AX) (ns:List V) (d B:Nat) (S D:List (List UInt8)) (L:List Rd) (a b r:Value):Prop where
 t:EJ av base W rb vn ts ns d
 box:Y W B 32 #[.int .i64 1,.string ⟨#[]⟩,.bool false,a,b,r,.slice none 0 0,.slice none 0 0]
 hB:w.heap.size≤B
 AY:DV W a S
 words:DV W b D
 DB:I4 W r L
 na: ∀k,a.ownBlock=some k→w.heap.size≤k
 nb: ∀k,b.ownBlock=some k→w.heap.size≤k
 nr: ∀k,r.ownBlock=some k→w.heap.size≤k
 ab: ∀k,a.ownBlock=some k→b.ownBlock=some k→False
 gr:w.grownBy W (some rb)
variable {B:Nat} {S D:List (List UInt8)} {L:List Rd} {a b r vA:Value}
theorem By.step (J:B8 av base w rb vt0 vn ts0 ns d) (h:By av base w W rb vn ts ns d B S D L a b r) (F:W.grownBy W' (some rb)) (K:EJ av base W' rb vn ts' ns d):By av base w W' rb vn ts' ns d B S D L a b r:=by
 have N:=Y.lt J.BD;obtain⟨O,M⟩:=h.t.BD;have G:Az (fun k=>k=rb) W W':=Az.AL F (fun k hk=>by injection hk with hk;exact hk.symm);have I:=M.AN;refine⟨K,Y.grown h.box F (fun e=>by injection e with e;have:=h.hB;omega),h.hB,Own.Bl h.AY G (fun g z e=>?_),Own.Bl h.words G (fun g z e=>?_),Own.Bl h.DB G (fun g z e=>?_),h.na,h.nb,h.nr,h.ab,CO h.gr F⟩
 ·subst e;exact Ai ((Own.AN h.AY z).uniq I) (by decide)
 ·subst e;exact Ai ((Own.AN h.words z).uniq I) (by decide)
 ·subst e;exact Ai ((Own.AN h.DB z).uniq I) (by decide)
theorem By.grown (F:B8 av base w rb vt0 vn ts0 ns d) (h:By av base w W rb vn ts ns d B S D L a b r) (z:W.grownBy W' none):By av base w W' rb vn ts ns d B S D L a b r:=h.step F (DH z) (h.t.grown z)
theorem By.RJ (h:By av base w W rb vn ts ns d B S D L a b r) (o:Obj) (z:Az (fun k=>a.ownBlock=some k) (W.alloc o) wA):Y wA B 32 #[.int .i64 1,.string ⟨#[]⟩,.bool false,a,b,r,.slice none 0 0,.slice none 0 0]:=
 Y.Bl (h.box.alloc o) z (fun e=>Ai ((Own.AN h.AY e).uniq h.box.AN) (by decide))
theorem By.U9 (X:B8 av base w rb vt0 vn ts0 ns d) (h:By av base w W rb vn ts ns d B S D L a b r) (o:Obj) {x:List UInt8} (I:Own wA 9 1 vA (S.length+1) (S.map sv++[sv x]) 0) (J:Az (fun k=>a.ownBlock=some k) (W.alloc o) wA) (K: ∀k,vA.ownBlock=some k→a.ownBlock=some k∨(W.alloc o).heap.size≤k):
  By av base w (wA.setCell ⟨B,3,none⟩ vA) rb vn ts ns d B (S++[x]) D L vA b r:=by
 have M:=h.RJ o J;have aa:EJ av base (W.alloc o) rb vn ts ns d:=h.t.grown (AF (AB W none) o);have N: ∀k,a.ownBlock=some k→Bk (W.alloc o) k 9:=fun k e=>Own.AN (Own.alloc h.AY o) e
 have F:Bk (W.alloc o) B 32:=(h.box.alloc o).AN;have G:Az (fun k=>a.ownBlock=some k∨k=B) (W.alloc o) (wA.setCell ⟨B,3,none⟩ vA):=Az.setCell (Az.mono J fun k _ e=> .inl e) (p:=⟨B,3,none⟩) (.inl (.inr rfl)) vA;obtain⟨ac,ad⟩:=EJ.other X aa (AF h.gr o) G (fun k e=>by rcases e with e|rfl;exact h.na k e;exact h.hB) (fun k e hk=>by
  rcases e with e|rfl
  ·exact Ai ((N k e).uniq hk) (by decide)
  ·exact Ai (F.uniq hk) (by decide))
 have ae:Own (wA.setCell ⟨B,3,none⟩ vA) 9 1 b D.length (D.map sv) 0:=(Own.alloc h.words o).Bl G (fun g z e=>by
  rcases e with e|rfl
  ·exact h.ab g (by first|exact z|exact e) (by first|exact e|exact z)
  ·exact Ai ((Own.AN (Own.alloc h.words o) z).uniq F) (by decide))
 have af:Own (wA.setCell ⟨B,3,none⟩ vA) 9 1 vA (S++[x]).length ((S++[x]).map sv) 0:=by
  rw[BE,Cd,List.map_append];exact I.Be (p:=⟨B,3,none⟩) (fun e=>Ai ((Own.AN I e).uniq M.AN) (by decide)) _
 have ag:I4 (wA.setCell ⟨B,3,none⟩ vA) r L:=(Own.alloc h.DB o).Bl G (fun g z e=>by
  rcases e with e|rfl
  ·exact Ai ((Own.AN (Own.alloc h.DB o) z).uniq (N g e)) (by decide)
  ·exact Ai ((Own.AN (Own.alloc h.DB o) z).uniq F) (by decide))
 refine⟨ac,Y.AV M 3 _,h.hB,af,ae,ag,?_,?_,h.nr,?_,ad⟩
 ·exact fun k hk=>by
    rcases K k hk with e|e
    ·exact h.na k e
    ·rw[World.size_alloc]at e;have:=h.gr.size;omega
 ·exact h.nb
 ·exact fun k hk O=>by
    rcases K k hk with e|e
    ·exact h.ab k e O
    ·have:=Own.lt h.words O;rw[World.size_alloc]at e;omega
theorem By.OM (h:By av base w W rb vn ts ns d B S D L a b r) (o:Obj) (z:Az (fun k=>b.ownBlock=some k) (W.alloc o) wA):Y wA B 32 #[.int .i64 1,.string ⟨#[]⟩,.bool false,a,b,r,.slice none 0 0,.slice none 0 0]:=
 Y.Bl (h.box.alloc o) z (fun e=>Ai ((Own.AN h.words e).uniq h.box.AN) (by decide))
theorem By.RF (O:B8 av base w rb vt0 vn ts0 ns d) (h:By av base w W rb vn ts ns d B S D L a b r) (o:Obj) {x:List UInt8} (I:Own wA 9 1 vA (D.length+1) (D.map sv++[sv x]) 0) (J:Az (fun k=>b.ownBlock=some k) (W.alloc o) wA) (K: ∀k,vA.ownBlock=some k→b.ownBlock=some k∨(W.alloc o).heap.size≤k):
  By av base w (wA.setCell ⟨B,4,none⟩ vA) rb vn ts ns d B S (D++[x]) L a vA r:=by
 have M:=h.OM o J;have X:EJ av base (W.alloc o) rb vn ts ns d:=h.t.grown (AF (AB W none) o);have N: ∀k,b.ownBlock=some k→Bk (W.alloc o) k 9:=fun k e=>Own.AN (Own.alloc h.words o) e
 have F:Bk (W.alloc o) B 32:=(h.box.alloc o).AN;have G:Az (fun k=>b.ownBlock=some k∨k=B) (W.alloc o) (wA.setCell ⟨B,4,none⟩ vA):=Az.setCell (Az.mono J fun k _ e=> .inl e) (p:=⟨B,4,none⟩) (.inl (.inr rfl)) vA;obtain⟨aa,ac⟩:=EJ.other O X (AF h.gr o) G (fun k e=>by rcases e with e|rfl;exact h.nb k e;exact h.hB) (fun k e hk=>by
  rcases e with e|rfl
  ·exact Ai ((N k e).uniq hk) (by decide)
  ·exact Ai (F.uniq hk) (by decide))
 have ad:Own (wA.setCell ⟨B,4,none⟩ vA) 9 1 a S.length (S.map sv) 0:=(Own.alloc h.AY o).Bl G (fun g z e=>by
  rcases e with e|rfl
  ·exact h.ab g (by first|exact z|exact e) (by first|exact e|exact z)
  ·exact Ai ((Own.AN (Own.alloc h.AY o) z).uniq F) (by decide))
 have ae:Own (wA.setCell ⟨B,4,none⟩ vA) 9 1 vA (D++[x]).length ((D++[x]).map sv) 0:=by
  rw[BE,Cd,List.map_append];exact I.Be (p:=⟨B,4,none⟩) (fun e=>Ai ((Own.AN I e).uniq M.AN) (by decide)) _
 have af:I4 (wA.setCell ⟨B,4,none⟩ vA) r L:=(Own.alloc h.DB o).Bl G (fun g z e=>by
  rcases e with e|rfl
  ·exact Ai ((Own.AN (Own.alloc h.DB o) z).uniq (N g e)) (by decide)
  ·exact Ai ((Own.AN (Own.alloc h.DB o) z).uniq F) (by decide))
 refine⟨aa,Y.AV M 4 _,h.hB,ad,ae,af,?_,?_,h.nr,?_,ac⟩
 ·exact h.na
 ·exact fun k hk=>by
    rcases K k hk with e|e
    ·exact h.nb k e
    ·rw[World.size_alloc]at e;have:=h.gr.size;omega
 ·exact fun k hk ag=>by
    rcases K k ag with e|e
    ·exact h.ab k hk e
    ·have:=Own.lt h.AY hk;rw[World.size_alloc]at e;omega
theorem By.RS (h:By av base w W rb vn ts ns d B S D L a b r) (z:Az (fun k=>r.ownBlock=some k) W wA):Y wA B 32 #[.int .i64 1,.string ⟨#[]⟩,.bool false,a,b,r,.slice none 0 0,.slice none 0 0]:=
 Y.Bl h.box z (fun e=>Ai ((Own.AN h.DB e).uniq h.box.AN) (by decide))
theorem By.U8 (N:B8 av base w rb vt0 vn ts0 ns d) (h:By av base w W rb vn ts ns d B S D L a b r) {l:List Rd} (J:Own wA 34 3 vA (L.length+l.length) (L.flatMap Rd.cells++l.flatMap Rd.cells) 0) (K:Az (fun k=>r.ownBlock=some k) W wA) (O: ∀k,vA.ownBlock=some k→r.ownBlock=some k∨W.heap.size≤k):
  By av base w (wA.setCell ⟨B,5,none⟩ vA) rb vn ts ns d B S D (L++l) a b vA:=by
 have M:=h.RS K;have F: ∀k,r.ownBlock=some k→Bk W k 34:=fun k e=>Own.AN h.DB e
 have G:Bk W B 32:=h.box.AN;have I:Az (fun k=>r.ownBlock=some k∨k=B) W (wA.setCell ⟨B,5,none⟩ vA):=Az.setCell (Az.mono K fun k _ e=> .inl e) (p:=⟨B,5,none⟩) (.inl (.inr rfl)) vA;obtain⟨X,aa⟩:=EJ.other N h.t h.gr I (fun k e=>by rcases e with e|rfl;exact h.nr k e;exact h.hB) (fun k e hk=>by
  rcases e with e|rfl
  ·exact Ai ((F k e).uniq hk) (by decide)
  ·exact Ai (G.uniq hk) (by decide))
 have ac:I4 (wA.setCell ⟨B,5,none⟩ vA) vA (L++l):=by
  unfold I4;rw[BE,List.flatMap_append];exact J.Be (p:=⟨B,5,none⟩) (fun e=>Ai ((Own.AN J e).uniq M.AN) (by decide)) _
 refine⟨X,Y.AV M 5 _,h.hB,Own.Bl h.AY I (fun g z e=>?_),Own.Bl h.words I (fun g z e=>?_),ac,h.na,h.nb,fun k hk=>?_,h.ab,aa⟩
 ·rcases e with e|rfl
  ·exact Ai ((Own.AN h.AY z).uniq (F g e)) (by decide)
  ·exact Ai ((Own.AN h.AY z).uniq G) (by decide)
 ·rcases e with e|rfl
  ·exact Ai ((Own.AN h.words z).uniq (F g e)) (by decide)
  ·exact Ai ((Own.AN h.words z).uniq G) (by decide)
 ·rcases O k hk with e|e
  ·exact h.nr k e
  ·have:=h.gr.size;omega
theorem By.start (h:B8 av base w rb vt0 vn ts ns d):By av base w (w.alloc (.cells #[.int .i64 1,.string ⟨#[]⟩,.bool false,.slice none 0 0,.slice none 0 0,.slice none 0 0,.slice none 0 0,.slice none 0 0] 32)) rb vn ts ns d w.heap.size [] [] [] (.slice none 0 0) (.slice none 0 0) (.slice none 0 0):=
 ⟨⟨vt0,h.grown (AF (AB w none) _)⟩,Y.new w 32 _,BL _,Own.nil _ _ _ _,Own.nil _ _ _ _,Own.nil _ _ _ _,fun k hk=>(by cases hk),fun k hk=>(by cases hk),fun k hk=>(by cases hk),fun k hk=>(by cases hk),AF (AB w _) _⟩
theorem By.node (h:By av base w W rb vn ts ns d B S D L a b r) (z: ∀k,av k→k<w.heap.size):Bi av W a b r (.slice none 0 0) (.slice none 0 0) { kind:=1,AY:=S,words:=D,AK:=L } :=
 ⟨h.AY,h.words,h.DB,⟨[],Own.nil _ _ _ _,fun b F=>(by cases F),fun i G=>Ai G (by simp)⟩,Own.nil _ _ _ _,fun k hk e=>by have:=h.na k hk;have:=z k e;omega,fun k hk e=>by have:=h.nb k hk;have:=z k e;omega,fun k hk e=>by have:=h.nr k hk;have:=z k e;omega,fun k hk=>(by cases hk)⟩
end
def Cl (S D:List (List UInt8)) (L:List Rd):V:= { kind:=1,AY:=S,words:=D,AK:=L }
def Ee (n:V) (ts:List AX) (ns:List V):PR Int:=if n.AY.length+n.words.length+n.AK.length=0 then Ay ts else An n ts ns
theorem Z0W {P:Prop} (h:P:=by
 rintro e bf ⟨v,rfl,rfl,ai,aj⟩;have ax:=Z (By.step ab.out ah.out aj ai);clear ai aj;go_wp2_with fail;go_roundg (gk-1);case rel=>exact⟨f,_,_,_,z,_,_,_,ac.out,by have:=O.out;simp only[BP]at this;omega,by have:=O.out;simp only[BP]at this;omega,by have:=O.out;simp only[BP,BE]at this;simp only[BE,Cd];omega,ax.out⟩
 case measure=>have:=O.out;simp only[BP]at this;omega):P:=h
theorem Tm (av:Nat→Prop) (base:Nat→Prop) (rb d:Nat) (ts:List AX) (ns:List V) (w:World) (bn: ∀k,av k→k<w.heap.size) (M:CM av base w rb ts ns d):
  Calls Tryz.prog 113 #[.pointer (some ⟨rb,0,none⟩)] w (Al CZ av base w rb d (IT ts ns)):=by
 obtain⟨vt0,vn,aP⟩:=M;have aD:=Z (fun W t r (al:EJ av base W rb vn (t::r) ns d) (hk:t.k≠4)=>(show Calls Tryz.prog 61 #[.pointer (some ⟨rb,0,none⟩)] W (Bo Gw av base W rb vn d (.ok t r ns)) by obtain⟨az,al⟩:=al;exact EU av base rb d az vn t r ns W al hk));have b':=Z (fun W t r (al:EJ av base W rb vn (t::r) ns d)=>(show Calls Tryz.prog 31 #[.pointer (some ⟨rb,0,none⟩)] W fun e w'=>e=.panicked [Fk t.a (if t.k=4 then 23 else 17)]∧W.grownBy w' none by obtain⟨az,al⟩:=al;exact Fa av base rb d az vn t r ns W al));have ca:=Z (fun W T (al:EJ av base W rb vn T ns d)=>J7 av base rb d vn T ns W al);have bo:=Z (fun s W=>Gd s W);have bp:=Z (fun s W M=>Na s W M);have bq:=Z (fun W ts n a b r p k M aQ aR=>GZ av base rb d ts ns n a b r p k W M aQ aR);unfold Bo Gw F8 sv at aD;unfold Al CZ An AT sv at bq;unfold sv at bo bp;have ab:=Z aP;have cb:=Z bn;have a0:=Z aP.Dy;have a1:=Z (By.start aP);show Calls Tryz.prog 113 #[.pointer (some ⟨rb,0,none⟩)] w (Al CZ av base w rb d ((Ci (ts.length+1) { kind:=1 } ts ns).bind Ee));obtain⟨R,am⟩: ∃R,(Ci (ts.length+1) { kind:=1 } ts ns).bind Ee=R:=⟨_,rfl⟩;have cc:=Z (show(Ci (ts.length+1) (Cl [] [] []) ts ns).bind Ee=R from am);rw[am];obtain⟨B,br⟩: ∃B,w.heap.size=B:=⟨_,rfl⟩;rw[br]at a1;clear am aP bn;go_enter Tryz.func113,Tryz.ntmps113;go_wp2_with fail;go_step3
 go_wp2_with fail;go_step3
 go_upto_block 0 with(fail);obtain⟨bs,bt⟩: ∃bs,w.alloc (.cells #[.int .i64 1,.string ⟨#[]⟩,.bool false,.slice none 0 0,.slice none 0 0,.slice none 0 0,.slice none 0 0,.slice none 0 0] 32)=bs:=⟨_,rfl⟩;rw[bt]at a1⊢;clear bt br;go_cut [] (fun aE=> ∃(S D:List (List UInt8)) (L:List Rd) (T:List AX) (a b r:Value),R=Ee (Cl S D L) T ns∧S.length+D.length+L.length≤100000∧ns.length+10*T.length+(if S.length+D.length+L.length=0 then 0 else 5)≤100000∧By av base w aE rb vn T ns d B S D L a b r);case rest=>
  obtain⟨S,D,L,T,a,b,r,am,cL,bu,I⟩:=hcut;have ac:=Z am;have aF:=Z I;have cd:=Z bu;obtain⟨t,z,rfl⟩:=I.t.Aj.ne;obtain⟨aA,aB,rfl,_,_⟩:=Own.form I.AY;obtain⟨ae,af,rfl,_,_⟩:=Own.form I.words;obtain⟨ao,ap,rfl,_,_⟩:=Own.form I.DB;have ak:=Y.lt I.box;have ce:=Y.cell I.box 0;have cf:=Y.cell I.box 1;have cg:=Y.cell I.box 2;have ch:=Y.cell I.box 3;have ci:=Y.cell I.box 4;have aG:=Y.cell I.box 5;have cj:=Y.cell I.box 6;have ck:=Y.cell I.box 7;simp only[List.getElem?_toArray,List.getElem?_cons_zero,List.getElem?_cons_succ]at ce cf cg ch ci aG cj ck;have bv:=Z (ab.out.Ko I.gr);obtain⟨q,bw⟩: ∃q,((S.length:Int)+(D.length:Int)+(L.length:Int)==0)=q:=⟨_,rfl⟩;have cM:S.length≤100000:=(by omega);have cN:D.length≤100000:=(by omega);have cO:L.length≤100000:=(by omega);clear am bu I;cases q with
  |true=>
   have aH:=Z (show R=Ay (t::z)from ac.out.trans (Ah (by have:=eq_of_beq bw;show S.length+D.length+L.length=0;omega)));unfold Ay at aH;go_wp2_with fail;refine(b'.out _ t z aF.out.t).mono ?_;rintro e cl ⟨rfl,g⟩;refine AR rfl ?_;rw[aH.out];exact(⟨rfl,bv.out.trans (Fr.AL g)⟩:_∧_)
  |false=>
   have aI: ¬(S.length+D.length+L.length=0):=by
    intro e;have bx:=beq_eq_false_iff_ne.1 bw;exact bx (by omega)
   have aH:=Z (show R=An (Cl S D L) (t::z) ns from ac.out.trans (U aI));have bz:ns.length+1+10*(t::z).length≤100000:=by
    have:=cd.out;rw[U aI]at this;omega
   have cm:=Z (bq.out wc (t::z) { kind:=1,AY:=S,words:=D,AK:=L } (.slice aA S.length aB) (.slice ae D.length af) (.slice ao L.length ap) (.slice none 0 0) (.slice none 0 0) (by obtain⟨az,hx⟩:=aF.out.t;exact⟨az,vn,hx⟩) (aF.out.node cb.out) bz);unfold An at aH;clear bz aI;go_wp2_with fail;refine cm.out.mono ?_;rintro e cl ⟨v,rfl,rfl,bA,bB⟩;have cn:=Z bA;have co:=Z (bv.out.trans bB);clear bA bB;go_wp2_with fail;rw[aH.out];go_ret;exact⟨_,rfl,rfl,cn.out,co.out⟩
 go_wp2_with fail;go_loopg [] ts.length (fun g wr=> ∃(f:Nat) (S D:List (List UInt8)) (L:List Rd) (T:List AX) (a b r:Value),(Ci f (Cl S D L) T ns).bind Ee=R∧T.length<f∧T.length≤g∧S.length+D.length+L.length+T.length≤ts.length∧By av base w wr rb vn T ns d B S D L a b r);case atStart=>exact⟨_,[],[],[],ts,_,_,_,cc.out,Nat.lt_succ_self _,BL _,by simp,a1.out⟩
 case round=>
  obtain⟨f,S,D,L,T,a,b,r,am,aR,aC,bC,I⟩:=hrel;have bD:=Z am;have aF:=Z I;obtain⟨aA,aB,rfl,_,_⟩:=Own.form I.AY;obtain⟨ae,af,rfl,_,_⟩:=Own.form I.words;obtain⟨ao,ap,rfl,_,_⟩:=Own.form I.DB;obtain⟨f,rfl⟩: ∃cp,f=cp+1:=⟨f-1,by omega⟩;have bE:=I.t.Aj;have ak:=Y.lt I.box;have aG:wr.cell? ⟨B,5,none⟩=some (.slice ao L.length ap):=Y.cell I.box 5;have a2:=Z (aF.out.grown ab.out (Ag (AB wr none)));have aJ:=Z (ca.out _ T a2.out.t);obtain⟨a3,aq⟩: ∃a3,CW T ns=a3:=⟨_,rfl⟩;rw[aq]at aJ;have a4:=Z aq;have a5:=Z (A8 aR (A8 aC bC));have bF:=Z bE;clear am I aq bE aR aC bC;go_wp2_with fail;go_cut [] (fun aE=> ∃(l:List Rd) (aK:List AX) (bG:Value),CW T ns=.ok l aK ns∧By av base w aE rb vn aK ns d B S D (L++l) (.slice aA S.length aB) (.slice ae D.length af) bG);case first=>
   refine DR [0,1,2] [3,4,5,6] (by kernel_rfl) (by kernel_rfl) (fun W'=>W'.cell? ⟨B,5,none⟩=some (.slice ao L.length ap)) aG (by intro c a w d v M;cases d<;>exact M) ?_;simp only[pick,List.getElem?_cons_zero,List.getElem?_cons_succ];refine AQ ?_ (by rfl) ?_ ?_;rotate_left
   ·(intro bH bI;go_simp;try with_reducible rfl)
   simp only[Act.put,BH,BF,BG];refine AQ ?_ (by rfl) ?_ ?_;rotate_left
   ·(intro bH bI;go_simp;try with_reducible rfl)
   simp only[Act.put,BH,BF,BG];refine AQ ?_ (by rfl) ?_ ?_;rotate_left
   ·(intro bH bI;go_simp;try with_reducible rfl)
   simp only[Act.put,BH,BF,BG];refine CP ?_;refine Ae fun cq bJ=>?_
   cases a3 with
   |bad cr cs=>
    unfold Bo at aJ;refine Cn (by rfl) (by simp[execOp,resolve,invoke,go_sem]) aJ.out (fun w' M=>by cases M.1) (fun v w' M=>by cases M.1) ?_;rintro c w' ⟨G,aC⟩;injection G with G;subst G;refine AR (P:=Tryz.prog) (fn:=Tryz.f113) rfl ?_;have ct:=Z (show R=.bad cr cs by rw[←bD.out,Ci,a4.out];rfl);rw[ct.out];exact(⟨rfl,ab.out.Ko (CO a2.out.gr aC)⟩:_∧_)
   |ok l aK cP=>
    obtain⟨cu,rfl,a6⟩:=Dg bF.out a4.out;unfold Bo Mv at aJ;refine Cn (by rfl) (by simp[execOp,resolve,invoke,go_sem]) aJ.out (fun w' M=>by obtain⟨_,M,_⟩:=M;cases M) ?_ (fun c w' M=>by obtain⟨_,M,_⟩:=M;cases M);rintro v cQ ⟨cR,F,⟨a7,cv⟩,bK,bL⟩;injection F with F;subst F;have aL:=By.step ab.out a2.out bL bK;obtain⟨cS,cT,rfl,_,_⟩:=Own.form a7;refine bJ.out _ _ (Y.cell aL.box 5) ?_;simp only[Act.put,BH,BF,BG];refine Ae fun cw bM=>?_
    refine Ap (by rfl) (.tmp 8) (.tmp 10) 28 28 (by rfl) 34 (.agg #[.int .i64 0,.string ⟨#[]⟩,.string ⟨#[]⟩]) 3 40 Tryz.underlying28 J6 rfl (.slice ao L.length ap) L.length (L.flatMap Rd.cells) 0 _ l.length (l.flatMap Rd.cells) (by rfl) (by rfl) aL.DB (by omega) (UW a7) (by have:=a5.out;have:=a0.out;unfold maxLen;omega) (by have:=a5.out;have:=a0.out;omega) ?_;intro vA wA N G aQ _;obtain⟨cU,cV,rfl,_,_⟩:=Own.form N;have J:=aL.RS G;have cW:=Y.lt J;have aS:=Y.frozen J 5;have cX:wA.cell? ⟨B,5,none⟩=some (.slice ao L.length ap):=Y.cell J 5;have aT:=Z (By.U8 ab.out aL N G aQ);have cx:=Z a4.out;refine bM.out _ _ (Y.cell J 5) ?_;simp only[Act.put,BH,BF,BG];refine Ae fun cy bN=>?_
    refine AZ (.pointer (some ⟨B,5,none⟩)) wA (by rfl) (by go_simp) ?_;refine bN.out _ _ (Y.cell J 5) ?_;simp only[Act.put,BH,BF,BG];refine CN ?_;clear aL N G aQ a7 cv bK bL J bJ bM bN cq cw cy cu a6 ak aG;go_wp2_with fail;go_meet;case rel=>exact⟨l,aK,_,cx.out,aT.out⟩
  case rest=>
   obtain⟨l,aK,bG,aq,bO⟩:=hcut;obtain⟨bP,_,a6⟩:=Dg bF.out aq;have cz:=Z aq;have aT:=Z bO;obtain⟨t,z,rfl⟩:=bP.ne;have O:=Z (show S.length+D.length+(L++l).length+(t::z).length≤ts.length∧(t::z).length≤T.length∧T.length<f+1∧T.length≤gk by have:=a5.out;rw[BE];omega);obtain⟨ao,ap,rfl,_,_⟩:=Own.form bO.DB;clear a6 aq bP aG ak;obtain⟨az,aM⟩:=aT.out.t;obtain⟨cY,cZ,g,c0,c1,cA,rfl,G,aC,bQ,bR,bS⟩:=aM.head;injection cA with cB cC;subst cB cC;obtain⟨bT,cD,cE⟩:=aM.cells;have lb:=Y.lt aM.BD;have bU:=(aM.Kx t (List.mem_cons_self ..)).1;have bV:(0:Int)<(((t::z).length:Nat):Int):=(by simp only[BP];omega);have a8:=Z (show R=((if t.k≠1 then .ok (Cl S D (L++l)) (t::z) ns else if 0<D.length then Ci f (Cl S (D++[t.t]) (L++l)) z ns else if Fj t.t=true then Ci f (Cl (S++[t.t]) D (L++l)) z ns else if(t.t !=FZ&&DW t.t)=true then .ok (Cl S D (L++l)) (t::z) ns else Ci f (Cl S (D++[t.t]) (L++l)) z ns:PR V)).bind Ee by rw[←bD.out,Ci,cz.out,PR.Bj];rfl);have aN:=Z (show(Cl S D (L++l)).AY.length+(Cl S D (L++l)).words.length+(Cl S D (L++l)).AK.length≤100000∧ns.length+10*(t::z).length+(if S.length+D.length+(L++l).length=0 then 0 else 5)≤100000 by
    have bx:=O.out;have c2:=a0.out;refine⟨by show S.length+D.length+(L++l).length≤100000;omega,?_⟩;split<;>omega)
   obtain⟨bW,bX⟩: ∃bW,(t::z).length=bW:=⟨_,rfl⟩;rw[bX]at bT bV G;clear aM bX;obtain⟨ad,h,X⟩:=t;simp only[]at bQ bR bS bU;have cF:=Z (bp.out h (wc.alloc (.cells #[.int .i64 ad,.string ⟨h.toArray⟩,.int .i64 X] 69)) (by omega));have K:=Z (aT.out.grown ab.out (AF (AB wc none) (.cells #[.int .i64 ad,.string ⟨h.toArray⟩,.int .i64 X] 69)));clear bU;go_wp2_with fail;refine cF.out.mono ?_;rintro e w' ⟨rfl,rfl⟩;obtain⟨aa,a9⟩: ∃aa,FY true h=aa:=⟨_,rfl⟩;have cG:=Z a9;simp only[a9];have c5:S.length+D.length+(L++l).length≤100000:=aN.out.1;have a':(wc.alloc (.cells #[.int .i64 ad,.string ⟨h.toArray⟩,.int .i64 X] 69)).cell? ⟨B,4,none⟩=some (.slice ae D.length af):=Y.cell K.out.box 4;have bY:(wc.alloc (.cells #[.int .i64 ad,.string ⟨h.toArray⟩,.int .i64 X] 69)).cell? ⟨B,3,none⟩=some (.slice aA S.length aB):=Y.cell K.out.box 3;have aU:=Y.new wc 69 #[.int .i64 ad,.string ⟨h.toArray⟩,.int .i64 X];have ba:(wc.alloc (.cells #[.int .i64 ad,.string ⟨h.toArray⟩,.int .i64 X] 69)).cell? ⟨wc.heap.size,0,none⟩=some (.int .i64 ad):=Y.cell aU 0;have aV:(wc.alloc (.cells #[.int .i64 ad,.string ⟨h.toArray⟩,.int .i64 X] 69)).cell? ⟨wc.heap.size,1,none⟩=some (.string ⟨h.toArray⟩):=Y.cell aU 1;have ak:=Y.lt K.out.box;have aO:=Y.lt aU;clear a9 bT cD cE lb bV G aC bQ bR bS aU;obtain⟨bb,bZ⟩: ∃bb,wc.alloc (.cells #[.int .i64 ad,.string ⟨h.toArray⟩,.int .i64 X] 69)=bb:=⟨_,rfl⟩;obtain⟨bc,b0⟩: ∃bc,wc.heap.size=bc:=⟨_,rfl⟩;rw[bZ]at a' bY ba aV ak aO K⊢;rw[b0]at ba aV aO⊢;clear bZ b0;obtain⟨an,bd⟩: ∃an,D.length=an:=⟨_,rfl⟩;have ar:=Z bd;rw[bd]at a' K;clear bd;by_cases b1:ad=1
   ·subst b1;by_cases b2:0<an
    ·have c6:decide ((0:Int)<(an:Int))=true:=At (by omega);have ac:=Z (show(Ci f (Cl S (D++[h]) (L++l)) z ns).bind Ee=R from(a8.out.trans (by rw[U (by simp),Ah (by have:=ar.out;omega)])).symm);have c7:decide (0<an)=true:=At b2;clear bY;go_wp2_with (at_builtin;go_loud (refine AU 9 (.string ⟨#[]⟩) 1 16 Tryz.underlying27 Du rfl (.slice ae an af) D.length (D.map sv) 0 _ 1 [sv h] rfl rfl (Own.alloc K.out.words _) (by omega) (Jd _ _ h rfl) (by unfold maxLen;omega) (by omega) ?_);intro vA wA N G ag _;(have J:=K.out.OM _ G);(have aS:=Y.frozen J 4);(have ak:=Y.lt J);(have be:wA.cell? ⟨B,4,none⟩=some (.slice ae an af):=Y.cell J 4);obtain⟨au,aw,F,_,_⟩:=Own.form N;go_must (replace F:vA=.slice au (an+1) aw:=by(first|exact F|(rw[ar.out]at F;exact F)));subst F;(have ah:=Z (By.RF ab.out K.out _ N G ag));clear N G ag);refine(aD.out _ ⟨1,h,X⟩ z ah.out.t (by simp)).mono ?_;exact Z0W
    ·obtain rfl:D=[]:=List.eq_nil_of_length_eq_zero (by have:=ar.out;omega);obtain rfl:an=0:=by rw[←ar.out];rfl
     have b3:Fj h=(decide (0<aa)&&decide (aa<h.length)&&(h.getD aa 0==61)):=(by rw[←cG.out];rfl);have bg:=Z b3;have bh:=Z (show R=((if Fj h=true then Ci f (Cl (S++[h]) [] (L++l)) z ns else if(h !=FZ&&DW h)=true then .ok (Cl S [] (L++l)) (⟨1,h,X⟩::z) ns else Ci f (Cl S ([]++[h]) (L++l)) z ns:PR V)).bind Ee from a8.out.trans (by rw[U (by simp),U (by simp)]));clear b3 b2;go_upto_region 9 with(fail);go_cut [45] (fun cH aE=>cH=.bool (Fj h)∧aE=bb);case first=>
      have c8:=sz h;by_cases b4:0<aa
      ·have cI:decide ((0:Int)<(aa:Int))=true:=At (by omega);by_cases aW:aa<h.length
       ·have cJ:decide ((aa:Int)<(h.length:Int))=true:=At (by omega);have cK:=BC h aa aW;have c9:(0:Int)≤aa∧(aa:Int)<(h.length:Int):=(by omega);have ay:=Z (show Fj h=(h[aa]==61) by rw[bg.out,At b4,At aW,Ti aW];rfl);obtain⟨c,b5⟩: ∃c,h[aa]=c:=⟨_,rfl⟩;rw[b5]at cK ay;clear b5;by_cases bi:c=61
        ·subst bi;go_wp2_with fail;go_meet;exact⟨by rw[ay.out];rfl,rfl⟩
        ·have c':((c.toNat:Int)==61)=false:=Au (d:=61) bi;go_wp2_with fail;go_meet;exact⟨by rw[ay.out,Ba bi],rfl⟩
       ·have cJ:decide ((aa:Int)<(h.length:Int))=false:=Aq (by omega);have ay:=Z (show Fj h=false by rw[bg.out,Aq aW];simp);go_wp2_with fail;go_meet;exact⟨by rw[ay.out],rfl⟩
      ·have cI:decide ((0:Int)<(aa:Int))=false:=Aq (by omega);have ay:=Z (show Fj h=false by rw[bg.out,Aq b4];simp);go_wp2_with fail;go_meet;exact⟨by rw[ay.out],rfl⟩
     case rest=>
      obtain⟨rfl,rfl⟩:=hcut;obtain⟨bj,bk⟩: ∃bj,Fj h=bj:=⟨_,rfl⟩;rw[bk]at bh;simp only[bk];clear bk;cases bj with
      |true=>
       have ac:=Z (show(Ci f (Cl (S++[h]) [] (L++l)) z ns).bind Ee=R from bh.out.symm);go_wp2_with (at_builtin;go_loud (refine AU 9 (.string ⟨#[]⟩) 1 16 Tryz.underlying27 Du rfl (.slice aA S.length aB) S.length (S.map sv) 0 _ 1 [sv h] rfl rfl (Own.alloc K.out.AY _) (by omega) (Jd _ _ h rfl) (by unfold maxLen;omega) (by omega) ?_);intro vA wA N G ag _;(have J:=K.out.RJ _ G);(have aS:=Y.frozen J 3);(have ak:=Y.lt J);(have be:wA.cell? ⟨B,3,none⟩=some (.slice aA S.length aB):=Y.cell J 3);obtain⟨au,aw,F,_,_⟩:=Own.form N;go_must (replace F:vA=.slice au (S.length+1) aw:=by(first|exact F|(rw[ar.out]at F;exact F)));subst F;(have ah:=Z (By.U9 ab.out K.out _ N G ag));clear N G ag);refine(aD.out _ ⟨1,h,X⟩ z ah.out.t (by simp)).mono ?_;exact Z0W
      |false=>
       have b6:=Z (show R=((if(h !=FZ&&DW h)=true then .ok (Cl S [] (L++l)) (⟨1,h,X⟩::z) ns else Ci f (Cl S ([]++[h]) (L++l)) z ns:PR V)).bind Ee from bh.out);by_cases aX:h=FZ
       ·have ac:=Z (show(Ci f (Cl S ([]++[h]) (L++l)) z ns).bind Ee=R from(b6.out.trans (by rw[U (by rw[aX];decide)])).symm);obtain rfl:h=[105,110]:=aX;go_wp2_with (at_builtin;go_loud (refine AU 9 (.string ⟨#[]⟩) 1 16 Tryz.underlying27 Du rfl (.slice ae 0 af) ([]:List (List UInt8)).length (([]:List (List UInt8)).map sv) 0 _ 1 [sv [105,110]] rfl rfl (Own.alloc K.out.words _) (by omega) (Jd _ _ [105,110] rfl) (by unfold maxLen;omega) (by omega) ?_);intro vA wA N G ag _;(have J:=K.out.OM _ G);(have aS:=Y.frozen J 4);(have ak:=Y.lt J);(have be:wA.cell? ⟨B,4,none⟩=some (.slice ae 0 af):=Y.cell J 4);obtain⟨au,aw,F,_,_⟩:=Own.form N;go_must (replace F:vA=.slice au (1) aw:=by(first|exact F|(rw[ar.out]at F;exact F)));subst F;(have ah:=Z (By.RF ab.out K.out _ N G ag));clear N G ag);refine(aD.out _ ⟨1,[105,110],X⟩ z ah.out.t (by simp)).mono ?_;exact Z0W
       ·have aI:(h !=[105,110])=true:=(by rw[bne_iff_ne];exact aX);have da:(h==[105,110])=false:=(by rw[beq_eq_false_iff_ne];exact aX);have bl:=Z (show R=((if DW h=true then .ok (Cl S [] (L++l)) (⟨1,h,X⟩::z) ns else Ci f (Cl S ([]++[h]) (L++l)) z ns:PR V)).bind Ee from b6.out.trans (by rw[show(h !=FZ)=true from aI,Bool.true_and]));have b7:=Z (bo.out h wc);obtain⟨bm,b8⟩: ∃bm,DW h=bm:=⟨_,rfl⟩;rw[b8]at bl b7;clear b8;go_wp2_with fail;refine b7.out.mono ?_;rintro e b9 ⟨rfl,aY⟩;have aZ:=K.out.grown ab.out aY;have db:b9.cell? ⟨B,4,none⟩=some (.slice ae 0 af):=Y.cell aZ.box 4;have dc:b9.cell? ⟨bc,1,none⟩=some (.string ⟨h.toArray⟩):=AH aY aO aV;have dd:=Y.lt aZ.box;have de:=DP aO aY.size;clear K;have K:=Z aZ;clear aZ a' aV ba ak aO aY;cases bm with
        |true=>
         have ac:=Z (show R=Ee (Cl S [] (L++l)) (⟨1,h,X⟩::z) ns from bl.out);go_wp2_with fail;go_meet;case rel=>exact⟨S,[],L++l,_,_,_,_,ac.out,aN.out.1,aN.out.2,K.out⟩
        |false=>
         have ac:=Z (show(Ci f (Cl S ([]++[h]) (L++l)) z ns).bind Ee=R from bl.out.symm);go_wp2_with (at_builtin;go_loud (refine AU 9 (.string ⟨#[]⟩) 1 16 Tryz.underlying27 Du rfl (.slice ae 0 af) ([]:List (List UInt8)).length (([]:List (List UInt8)).map sv) 0 _ 1 [sv h] rfl rfl (Own.alloc K.out.words _) (by omega) (Jd _ _ h rfl) (by unfold maxLen;omega) (by omega) ?_);intro vA wA N G ag _;(have J:=K.out.OM _ G);(have aS:=Y.frozen J 4);(have ak:=Y.lt J);(have be:wA.cell? ⟨B,4,none⟩=some (.slice ae 0 af):=Y.cell J 4);obtain⟨au,aw,F,_,_⟩:=Own.form N;go_must (replace F:vA=.slice au (1) aw:=by(first|exact F|(rw[ar.out]at F;exact F)));subst F;(have ah:=Z (By.RF ab.out K.out _ N G ag));clear N G ag);refine(aD.out _ ⟨1,h,X⟩ z ah.out.t (by simp)).mono ?_;exact Z0W
   ·have df:((ad:Int) !=1)=true:=(by rw[bne_iff_ne];omega);have ac:=Z (show R=Ee (Cl S D (L++l)) (⟨ad,h,X⟩::z) ns from a8.out.trans (by rw[Ah b1];rfl));go_wp2_with fail;go_meet;case rel=>exact⟨S,D,L++l,_,_,_,_,ac.out,aN.out.1,aN.out.2,K.out⟩
end Go.Proofs.YtdhfhphbkfgamaaGreat
