/- A part. -/
import Derived.Deep.CutBlock
import Derived.WalkMore
import Derived.Test.YtdhfhphbkfgamaaGreatPj
set_option maxRecDepth 100000
set_option linter.all false
set_option maxHeartbeats 0
namespace Go.Proofs.YtdhfhphbkfgamaaGreat
open Go.RowKit Lx Proofs.Tryz
theorem EA:(prog.info? 9).map (fun i=>(i.zero,i.size,i.bytes))=some (some (.string ⟨#[]⟩),1,16):=by kernel_rfl
theorem Jz(W:World)(b:Nat)(x:List UInt8)(z:W.heap.size=b):Src prog 1 27 (.slice (some ⟨b,0,none⟩) 1 1) 1 [sv x] (W.alloc (.cells #[.string ⟨x.toArray⟩] 9)):=by
 subst z;exact Own.src (P:=prog) (tx:=27) (e':=9) (n:=1) (xs:=[sv x]) (k:=0) (e:=9) ⟨rfl,.inr ⟨W.heap.size,0,1,_,(0,0),rfl,Y.new W 9 _,BN _,BN _,by unfold maxLen;omega,by show 0+1*1<=1;omega,fun j G=>(by(have F:j=0:=by omega);subst F;rfl)⟩⟩ (by kernel_rfl) (by intro u h;simp at h;subst h;rfl)
theorem VE{w:World}{v:Value}{l:List Rd}(z:Ji w v l):Src prog 3 28 v l.length (l.flatMap Rd.cells) w:=
 Own.src (P:=prog) (tx:=28) (e':=34) (e:=34) z (by kernel_rfl) (by
  intro u h;rw[List.mem_flatMap]at h;obtain⟨x,_,h⟩:=h;simp only[Rd.cells,List.mem_cons,List.mem_nil_iff,or_false]at h;rcases h with rfl|rfl|rfl<;>rfl)
section
variable {av:Nat->Prop}{base:Nat->Prop}{rb d:Nat}{w W W' wA:World}{vn vt0:Value}{ts ts' ts0:List AY}{ns:List V}
theorem EU.other(G:CB av base w rb vt0 vn ts0 ns d)(h:EU av base W rb vn ts ns d)(F:w.grownBy W (some rb)){S:Nat->Prop}(z:Az S W W')(I:∀k,S k->w.heap.size<=k)(K:∀k,S k-> ¬Bn W k 69):EU av base W' rb vn ts ns d/\w.grownBy W' (some rb):=by
 have X:=Y.lt G.BF;have J:w.grownBy W' (some rb):=⟨z.os.trans F.os,z.tape.trans F.tape,z.output.trans F.output,E0 F.size z.size,fun k hk M=>(z.block k (DZ hk F.size) (fun e=>by have:=I k e;omega)).trans (F.block k hk M)⟩;obtain⟨N,h⟩:=h;exact⟨⟨N,G.back J (Y.Bo h.BF z (fun e=>by have:=I rb e;omega)) (h.tok.Bo z (fun g O e=>K g e (Own.AO h.tok O))) h.Ak h.EG h.Lc⟩,J⟩
structure B3(av:Nat->Prop)(base:Nat->Prop)(w W:World)(rb:Nat)(vn:Value)(ts:List AY)(ns:List V)(d B:Nat)(S D:List (List UInt8))(L:List Rd)(a b r:Value):Prop where
 t:EU av base W rb vn ts ns d
 box:Y W B 32 #[.int .i64 1,.string ⟨#[]⟩,.bool false,a,b,r,.slice none 0 0,.slice none 0 0]
 hB:w.heap.size<=B
 AZ:Dd W a S
 words:Dd W b D
 DJ:Ji W r L
 na:∀k,a.ownBlock=some k->w.heap.size<=k
 nb:∀k,b.ownBlock=some k->w.heap.size<=k
 nr:∀k,r.ownBlock=some k->w.heap.size<=k
 ab:∀k,a.ownBlock=some k->b.ownBlock=some k->False
 gr:w.grownBy W (some rb)
variable {B:Nat}{S D:List (List UInt8)}{L:List Rd}{a b r vA:Value}
theorem B3.step(J:CB av base w rb vt0 vn ts0 ns d)(h:B3 av base w W rb vn ts ns d B S D L a b r)(F:W.grownBy W' (some rb))(K:EU av base W' rb vn ts' ns d):B3 av base w W' rb vn ts' ns d B S D L a b r:=by
 have N:=Y.lt J.BF;obtain⟨O,M⟩:=h.t.BF;have G:Az (fun k=>k=rb) W W':=Az.AL F (fun k hk=>by injection hk with hk;exact hk.symm);have I:=M.AO;refine⟨K,Y.grown h.box F (fun e=>by injection e with e;have:=h.hB;omega),h.hB,Own.Bo h.AZ G (fun g z e=>?_),Own.Bo h.words G (fun g z e=>?_),Own.Bo h.DJ G (fun g z e=>?_),h.na,h.nb,h.nr,h.ab,CS h.gr F⟩
 ·subst e;exact Aj ((Own.AO h.AZ z).uniq I) (by decide)
 ·subst e;exact Aj ((Own.AO h.words z).uniq I) (by decide)
 ·subst e;exact Aj ((Own.AO h.DJ z).uniq I) (by decide)
theorem B3.grown(F:CB av base w rb vt0 vn ts0 ns d)(h:B3 av base w W rb vn ts ns d B S D L a b r)(z:W.grownBy W' none):B3 av base w W' rb vn ts ns d B S D L a b r:=h.step F (DO z) (h.t.grown z)
theorem B3.Rt(h:B3 av base w W rb vn ts ns d B S D L a b r)(o:Obj)(z:Az (fun k=>a.ownBlock=some k) (W.alloc o) wA):Y wA B 32 #[.int .i64 1,.string ⟨#[]⟩,.bool false,a,b,r,.slice none 0 0,.slice none 0 0]:=
 Y.Bo (h.box.alloc o) z (fun e=>Aj ((Own.AO h.AZ e).uniq h.box.AO) (by decide))
theorem B3.Vp(X:CB av base w rb vt0 vn ts0 ns d)(h:B3 av base w W rb vn ts ns d B S D L a b r)(o:Obj){x:List UInt8}(I:Own wA 9 1 vA (S.length+1) (S.map sv++[sv x]) 0)(J:Az (fun k=>a.ownBlock=some k) (W.alloc o) wA)(K:∀k,vA.ownBlock=some k->a.ownBlock=some k\/(W.alloc o).heap.size<=k):
  B3 av base w (wA.setCell ⟨B,3,none⟩ vA) rb vn ts ns d B (S++[x]) D L vA b r:=by
 have M:=h.Rt o J;have aa:EU av base (W.alloc o) rb vn ts ns d:=h.t.grown (AF (AB W none) o);have N:∀k,a.ownBlock=some k->Bn (W.alloc o) k 9:=fun k e=>Own.AO (Own.alloc h.AZ o) e
 have F:Bn (W.alloc o) B 32:=(h.box.alloc o).AO;have G:Az (fun k=>a.ownBlock=some k\/k=B) (W.alloc o) (wA.setCell ⟨B,3,none⟩ vA):=Az.setCell (Az.mono J fun k _ e=> .inl e) (p:=⟨B,3,none⟩) (.inl (.inr rfl)) vA;obtain⟨ac,ad⟩:=EU.other X aa (AF h.gr o) G (fun k e=>by rcases e with e|rfl;exact h.na k e;exact h.hB) (fun k e hk=>by
  rcases e with e|rfl
  ·exact Aj ((N k e).uniq hk) (by decide)
  ·exact Aj (F.uniq hk) (by decide))
 have ae:Own (wA.setCell ⟨B,3,none⟩ vA) 9 1 b D.length (D.map sv) 0:=(Own.alloc h.words o).Bo G (fun g z e=>by
  rcases e with e|rfl
  ·exact h.ab g (by first|exact z|exact e) (by first|exact e|exact z)
  ·exact Aj ((Own.AO (Own.alloc h.words o) z).uniq F) (by decide))
 have af:Own (wA.setCell ⟨B,3,none⟩ vA) 9 1 vA (S++[x]).length ((S++[x]).map sv) 0:=by
  rw[BG,Cj,FN];exact I.Bi (p:=⟨B,3,none⟩) (fun e=>Aj ((Own.AO I e).uniq M.AO) (by decide)) _
 have ag:Ji (wA.setCell ⟨B,3,none⟩ vA) r L:=(Own.alloc h.DJ o).Bo G (fun g z e=>by
  rcases e with e|rfl
  ·exact Aj ((Own.AO (Own.alloc h.DJ o) z).uniq (N g e)) (by decide)
  ·exact Aj ((Own.AO (Own.alloc h.DJ o) z).uniq F) (by decide))
 refine⟨ac,Y.AW M 3 _,h.hB,af,ae,ag,?_,?_,h.nr,?_,ad⟩
 ·exact fun k hk=>by
    rcases K k hk with e|e
    ·exact h.na k e
    ·rw[BW]at e;have:=h.gr.size;omega
 ·exact h.nb
 ·exact fun k hk O=>by
    rcases K k hk with e|e
    ·exact h.ab k e O
    ·have:=Own.lt h.words O;rw[BW]at e;omega
theorem B3.O5(h:B3 av base w W rb vn ts ns d B S D L a b r)(o:Obj)(z:Az (fun k=>b.ownBlock=some k) (W.alloc o) wA):Y wA B 32 #[.int .i64 1,.string ⟨#[]⟩,.bool false,a,b,r,.slice none 0 0,.slice none 0 0]:=
 Y.Bo (h.box.alloc o) z (fun e=>Aj ((Own.AO h.words e).uniq h.box.AO) (by decide))
theorem B3.Sz(O:CB av base w rb vt0 vn ts0 ns d)(h:B3 av base w W rb vn ts ns d B S D L a b r)(o:Obj){x:List UInt8}(I:Own wA 9 1 vA (D.length+1) (D.map sv++[sv x]) 0)(J:Az (fun k=>b.ownBlock=some k) (W.alloc o) wA)(K:∀k,vA.ownBlock=some k->b.ownBlock=some k\/(W.alloc o).heap.size<=k):
  B3 av base w (wA.setCell ⟨B,4,none⟩ vA) rb vn ts ns d B S (D++[x]) L a vA r:=by
 have M:=h.O5 o J;have X:EU av base (W.alloc o) rb vn ts ns d:=h.t.grown (AF (AB W none) o);have N:∀k,b.ownBlock=some k->Bn (W.alloc o) k 9:=fun k e=>Own.AO (Own.alloc h.words o) e
 have F:Bn (W.alloc o) B 32:=(h.box.alloc o).AO;have G:Az (fun k=>b.ownBlock=some k\/k=B) (W.alloc o) (wA.setCell ⟨B,4,none⟩ vA):=Az.setCell (Az.mono J fun k _ e=> .inl e) (p:=⟨B,4,none⟩) (.inl (.inr rfl)) vA;obtain⟨aa,ac⟩:=EU.other O X (AF h.gr o) G (fun k e=>by rcases e with e|rfl;exact h.nb k e;exact h.hB) (fun k e hk=>by
  rcases e with e|rfl
  ·exact Aj ((N k e).uniq hk) (by decide)
  ·exact Aj (F.uniq hk) (by decide))
 have ad:Own (wA.setCell ⟨B,4,none⟩ vA) 9 1 a S.length (S.map sv) 0:=(Own.alloc h.AZ o).Bo G (fun g z e=>by
  rcases e with e|rfl
  ·exact h.ab g (by first|exact z|exact e) (by first|exact e|exact z)
  ·exact Aj ((Own.AO (Own.alloc h.AZ o) z).uniq F) (by decide))
 have ae:Own (wA.setCell ⟨B,4,none⟩ vA) 9 1 vA (D++[x]).length ((D++[x]).map sv) 0:=by
  rw[BG,Cj,FN];exact I.Bi (p:=⟨B,4,none⟩) (fun e=>Aj ((Own.AO I e).uniq M.AO) (by decide)) _
 have af:Ji (wA.setCell ⟨B,4,none⟩ vA) r L:=(Own.alloc h.DJ o).Bo G (fun g z e=>by
  rcases e with e|rfl
  ·exact Aj ((Own.AO (Own.alloc h.DJ o) z).uniq (N g e)) (by decide)
  ·exact Aj ((Own.AO (Own.alloc h.DJ o) z).uniq F) (by decide))
 refine⟨aa,Y.AW M 4 _,h.hB,ad,ae,af,?_,?_,h.nr,?_,ac⟩
 ·exact h.na
 ·exact fun k hk=>by
    rcases K k hk with e|e
    ·exact h.nb k e
    ·rw[BW]at e;have:=h.gr.size;omega
 ·exact fun k hk ag=>by
    rcases K k ag with e|e
    ·exact h.ab k hk e
    ·have:=Own.lt h.AZ hk;rw[BW]at e;omega
theorem B3.R9(h:B3 av base w W rb vn ts ns d B S D L a b r)(z:Az (fun k=>r.ownBlock=some k) W wA):Y wA B 32 #[.int .i64 1,.string ⟨#[]⟩,.bool false,a,b,r,.slice none 0 0,.slice none 0 0]:=
 Y.Bo h.box z (fun e=>Aj ((Own.AO h.DJ e).uniq h.box.AO) (by decide))
theorem B3.Vv(N:CB av base w rb vt0 vn ts0 ns d)(h:B3 av base w W rb vn ts ns d B S D L a b r){l:List Rd}(J:Own wA 34 3 vA (L.length+l.length) (L.flatMap Rd.cells++l.flatMap Rd.cells) 0)(K:Az (fun k=>r.ownBlock=some k) W wA)(O:∀k,vA.ownBlock=some k->r.ownBlock=some k\/W.heap.size<=k):
  B3 av base w (wA.setCell ⟨B,5,none⟩ vA) rb vn ts ns d B S D (L++l) a b vA:=by
 have M:=h.R9 K;have F:∀k,r.ownBlock=some k->Bn W k 34:=fun k e=>Own.AO h.DJ e
 have G:Bn W B 32:=h.box.AO;have I:Az (fun k=>r.ownBlock=some k\/k=B) W (wA.setCell ⟨B,5,none⟩ vA):=Az.setCell (Az.mono K fun k _ e=> .inl e) (p:=⟨B,5,none⟩) (.inl (.inr rfl)) vA;obtain⟨X,aa⟩:=EU.other N h.t h.gr I (fun k e=>by rcases e with e|rfl;exact h.nr k e;exact h.hB) (fun k e hk=>by
  rcases e with e|rfl
  ·exact Aj ((F k e).uniq hk) (by decide)
  ·exact Aj (G.uniq hk) (by decide))
 have ac:Ji (wA.setCell ⟨B,5,none⟩ vA) vA (L++l):=by
  unfold Ji;rw[BG,List.flatMap_append];exact J.Bi (p:=⟨B,5,none⟩) (fun e=>Aj ((Own.AO J e).uniq M.AO) (by decide)) _
 refine⟨X,Y.AW M 5 _,h.hB,Own.Bo h.AZ I (fun g z e=>?_),Own.Bo h.words I (fun g z e=>?_),ac,h.na,h.nb,fun k hk=>?_,h.ab,aa⟩
 ·rcases e with e|rfl
  ·exact Aj ((Own.AO h.AZ z).uniq (F g e)) (by decide)
  ·exact Aj ((Own.AO h.AZ z).uniq G) (by decide)
 ·rcases e with e|rfl
  ·exact Aj ((Own.AO h.words z).uniq (F g e)) (by decide)
  ·exact Aj ((Own.AO h.words z).uniq G) (by decide)
 ·rcases O k hk with e|e
  ·exact h.nr k e
  ·have:=h.gr.size;omega
theorem B3.start(h:CB av base w rb vt0 vn ts ns d):B3 av base w (w.alloc (.cells #[.int .i64 1,.string ⟨#[]⟩,.bool false,.slice none 0 0,.slice none 0 0,.slice none 0 0,.slice none 0 0,.slice none 0 0] 32)) rb vn ts ns d w.heap.size [] [] [] (.slice none 0 0) (.slice none 0 0) (.slice none 0 0):=
 ⟨⟨vt0,h.grown (AF (AB w none) _)⟩,Y.new w 32 _,BN _,Own.nil _ _ _ _,Own.nil _ _ _ _,Own.nil _ _ _ _,fun k hk=>(by cases hk),fun k hk=>(by cases hk),fun k hk=>(by cases hk),fun k hk=>(by cases hk),AF (AB w _) _⟩
theorem B3.node(h:B3 av base w W rb vn ts ns d B S D L a b r)(z:∀k,av k->k<w.heap.size):Bk av W a b r (.slice none 0 0) (.slice none 0 0) { kind:=1,AZ:=S,words:=D,AK:=L } :=
 ⟨h.AZ,h.words,h.DJ,⟨[],Own.nil _ _ _ _,fun b F=>(by cases F),fun i G=>Aj G (by simp)⟩,Own.nil _ _ _ _,fun k hk e=>by have:=h.na k hk;have:=z k e;omega,fun k hk e=>by have:=h.nb k hk;have:=z k e;omega,fun k hk e=>by have:=h.nr k hk;have:=z k e;omega,fun k hk=>(by cases hk)⟩
end
def Cq(S D:List (List UInt8))(L:List Rd):V:= { kind:=1,AZ:=S,words:=D,AK:=L }
def Ew(n:V)(ts:List AY)(ns:List V):PR Int:=if n.AZ.length+n.words.length+n.AK.length=0 then A3 ts else Ao n ts ns
theorem UL(av:Nat->Prop)(base:Nat->Prop)(rb d:Nat)(ts:List AY)(ns:List V)(w:World)(bi:∀k,av k->k<w.heap.size)(M:CQ av base w rb ts ns d):
  Calls prog 113 #[.pointer (some ⟨rb,0,none⟩)] w (Am Cg av base w rb d (Iz ts ns)):=by
 obtain⟨vt0,vn,aP⟩:=M;have aD:=Z (fun W t r (al:EU av base W rb vn (t::r) ns d) (hk:t.k≠4)=>(show Calls prog 61 #[.pointer (some ⟨rb,0,none⟩)] W (Br IX av base W rb vn d (.ok t r ns)) by obtain⟨az,al⟩:=al;exact Et av base rb d az vn t r ns W al hk));have b2:=Z (fun W t r (al:EU av base W rb vn (t::r) ns d)=>(show Calls prog 31 #[.pointer (some ⟨rb,0,none⟩)] W fun e w'=>e=.panicked [GF t.a (if t.k=4 then 23 else 17)]/\W.grownBy w' none by obtain⟨az,al⟩:=al;exact F0 av base rb d az vn t r ns W al));have b3:=Z (fun W T (al:EU av base W rb vn T ns d)=>Lb av base rb d vn T ns W al);have bj:=Z (fun s W=>Hq s W);have bk:=Z (fun s W M=>NZ s W M);have bl:=Z (fun W ts n a b r p k M aQ aR=>Hg av base rb d ts ns n a b r p k W M aQ aR);unfold Br IX GY sv at aD;unfold Am Cg Ao AU sv at bl;unfold sv at bj bk;have aa:=Z aP;have b4:=Z bi;have a0:=Z aP.EG;have a1:=Z (B3.start aP);show Calls prog 113 #[.pointer (some ⟨rb,0,none⟩)] w (Am Cg av base w rb d ((Co (ts.length+1) { kind:=1 } ts ns).bind Ew));obtain⟨R,am⟩:=U ((Co (ts.length+1) { kind:=1 } ts ns).bind Ew);have b5:=Z (show(Co (ts.length+1) (Cq [] [] []) ts ns).bind Ew=R from am);rw[am];obtain⟨B,bm⟩:=U w.heap.size;rw[bm]at a1;clear am aP bi;go_enter func113,ntmps113;go_wp2_with fail;go_step3
 go_wp2_with fail;go_step3
 go_upto_block 0 with(fail);obtain⟨cG,bn⟩:=U (w.alloc (.cells #[.int .i64 1,.string ⟨#[]⟩,.bool false,.slice none 0 0,.slice none 0 0,.slice none 0 0,.slice none 0 0,.slice none 0 0] 32));rw[bn]at a1⊢;clear bn bm;go_cut [] (fun aE=> ∃(S D:List (List UInt8)) (L:List Rd) (T:List AY) (a b r:Value),R=Ew (Cq S D L) T ns/\S.length+D.length+L.length<=100000/\ns.length+10*T.length+(if S.length+D.length+L.length=0 then 0 else 5)<=100000/\B3 av base w aE rb vn T ns d B S D L a b r);case rest=>
  obtain⟨S,D,L,T,a,b,r,am,cH,bo,I⟩:=hcut;have ab:=Z am;have aF:=Z I;have b6:=Z bo;obtain⟨t,z,rfl⟩:=I.t.Ak.ne;obtain⟨aA,aB,rfl,_,_⟩:=Own.form I.AZ;obtain⟨ae,af,rfl,_,_⟩:=Own.form I.words;obtain⟨an,ao,rfl,_,_⟩:=Own.form I.DJ;have ak:=Y.lt I.box;have b7:=Y.cell I.box 0;have b8:=Y.cell I.box 1;have b9:=Y.cell I.box 2;have b':=Y.cell I.box 3;have ca:=Y.cell I.box 4;have aG:=Y.cell I.box 5;have cb:=Y.cell I.box 6;have cc:=Y.cell I.box 7;simp only[List.getElem?_toArray,List.getElem?_cons_zero,List.getElem?_cons_succ]at b7 b8 b9 b' ca aG cb cc;have bp:=Z (aa.out.Kt I.gr);obtain⟨q,bq⟩:=U (((S.length:Int)+(D.length:Int)+(L.length:Int)==0));have cI:S.length<=100000:=(by omega);have cJ:D.length<=100000:=(by omega);have cK:L.length<=100000:=(by omega);clear am bo I;cases q with
  |true=>
   have aH:=Z (show R=A3 (t::z)from ab.out.trans (Ai (by have:=eq_of_beq bq;show S.length+D.length+L.length=0;omega)));unfold A3 at aH;go_wp2_with fail;refine(b2.out _ t z aF.out.t).mono ?_;rintro e cd ⟨rfl,g⟩;refine AS rfl ?_;rw[aH.out];exact(⟨rfl,bp.out.trans (Fr.AL g)⟩:_/\_)
  |false=>
   have aI:¬(S.length+D.length+L.length=0):=by
    intro e;have br:=beq_eq_false_iff_ne.1 bq;exact br (by omega)
   have aH:=Z (show R=Ao (Cq S D L) (t::z) ns from ab.out.trans (AP aI));have bs:ns.length+1+10*(t::z).length<=100000:=by
    have:=b6.out;rw[AP aI]at this;omega
   have ce:=Z (bl.out wc (t::z) { kind:=1,AZ:=S,words:=D,AK:=L } (.slice aA S.length aB) (.slice ae D.length af) (.slice an L.length ao) (.slice none 0 0) (.slice none 0 0) (by obtain⟨az,hx⟩:=aF.out.t;exact⟨az,vn,hx⟩) (aF.out.node b4.out) bs);unfold Ao at aH;clear bs aI;go_wp2_with fail;refine ce.out.mono ?_;rintro e cd ⟨v,rfl,rfl,bt,bu⟩;have cf:=Z bt;have cg:=Z (bp.out.trans bu);clear bt bu;go_wp2_with fail;rw[aH.out];go_ret;exact⟨_,rfl,rfl,cf.out,cg.out⟩
 go_wp2_with fail;go_loopg [] ts.length (fun g wr=> ∃(f:Nat) (S D:List (List UInt8)) (L:List Rd) (T:List AY) (a b r:Value),(Co f (Cq S D L) T ns).bind Ew=R/\T.length<f/\T.length<=g/\S.length+D.length+L.length+T.length<=ts.length/\B3 av base w wr rb vn T ns d B S D L a b r);case atStart=>exact⟨_,[],[],[],ts,_,_,_,b5.out,Nat.lt_succ_self _,BN _,by simp,a1.out⟩
 case round=>
  obtain⟨f,S,D,L,T,a,b,r,am,aR,aC,bv,I⟩:=hrel;have bw:=Z am;have aF:=Z I;obtain⟨aA,aB,rfl,_,_⟩:=Own.form I.AZ;obtain⟨ae,af,rfl,_,_⟩:=Own.form I.words;obtain⟨an,ao,rfl,_,_⟩:=Own.form I.DJ;obtain⟨f,rfl⟩:∃ch,f=ch+1:=⟨f-1,by omega⟩;have bx:=I.t.Ak;have ak:=Y.lt I.box;have aG:wr.cell? ⟨B,5,none⟩=some (.slice an L.length ao):=Y.cell I.box 5;have a2:=Z (aF.out.grown aa.out (Ah (AB wr none)));have aJ:=Z (b3.out _ T a2.out.t);obtain⟨ci,ap⟩:=U (Cb T ns);rw[ap]at aJ;have a3:=Z ap;have a4:=Z (BC aR (BC aC bv));have bz:=Z bx;clear am I ap bx aR aC bv;go_wp2_with fail;go_cut [] (fun aE=> ∃(l:List Rd) (aK:List AY) (bA:Value),Cb T ns=.ok l aK ns/\B3 av base w aE rb vn aK ns d B S D (L++l) (.slice aA S.length aB) (.slice ae D.length af) bA);case first=>
   refine Db [0,1,2] [3,4,5,6] (by kernel_rfl) (by kernel_rfl) (fun W'=>W'.cell? ⟨B,5,none⟩=some (.slice an L.length ao)) aG (by intro c a w d v M;cases d<;>exact M) ?_;simp only[pick,List.getElem?_cons_zero,List.getElem?_cons_succ];refine AR ?_ (by rfl) ?_ ?_;rotate_left
   ·(intro bB bC;go_simp;try with_reducible rfl)
   simp only[Act.put,BH,BI,BJ];refine AR ?_ (by rfl) ?_ ?_;rotate_left
   ·(intro bB bC;go_simp;try with_reducible rfl)
   simp only[Act.put,BH,BI,BJ];refine AR ?_ (by rfl) ?_ ?_;rotate_left
   ·(intro bB bC;go_simp;try with_reducible rfl)
   simp only[Act.put,BH,BI,BJ];refine CV ?_;refine Ag fun cj bD=>?_
   cases ci with
   |bad ck cl=>
    unfold Br at aJ;refine Cw (by rfl) (by simp[execOp,resolve,invoke,go_sem]) aJ.out (fun w' M=>by cases M.1) (fun v w' M=>by cases M.1) ?_;rintro c w' ⟨G,aC⟩;injection G with G;subst G;refine AS (P:=prog) (fn:=Tryz.f113) rfl ?_;have cm:=Z (show R=.bad ck cl by rw[<-bw.out,Co,a3.out];rfl);rw[cm.out];exact(⟨rfl,aa.out.Kt (CS a2.out.gr aC)⟩:_/\_)
   |ok l aK cL=>
    obtain⟨cn,rfl,a5⟩:=Dz bz.out a3.out;unfold Br NU at aJ;refine Cw (by rfl) (by simp[execOp,resolve,invoke,go_sem]) aJ.out (fun w' M=>by obtain⟨_,M,_⟩:=M;cases M) ?_ (fun c w' M=>by obtain⟨_,M,_⟩:=M;cases M);rintro v cM ⟨cN,F,⟨a6,co⟩,bE,bF⟩;injection F with F;subst F;have aL:=B3.step aa.out a2.out bF bE;obtain⟨cO,cP,rfl,_,_⟩:=Own.form a6;refine bD.out _ _ (Y.cell aL.box 5) ?_;simp only[Act.put,BH,BI,BJ];refine Ag fun cp bG=>?_
    refine Aq (by rfl) (.tmp 8) (.tmp 10) 28 28 (by rfl) 34 (.agg #[.int .i64 0,.string ⟨#[]⟩,.string ⟨#[]⟩]) 3 40 underlying28 LL rfl (.slice an L.length ao) L.length (L.flatMap Rd.cells) 0 _ l.length (l.flatMap Rd.cells) (by rfl) (by rfl) aL.DJ (by omega) (VE a6) (by have:=a4.out;have:=a0.out;unfold maxLen;omega) (by have:=a4.out;have:=a0.out;omega) ?_;intro vA wA N G aQ _;obtain⟨cQ,cR,rfl,_,_⟩:=Own.form N;have J:=aL.R9 G;have cS:=Y.lt J;have aS:=Y.frozen J 5;have cT:wA.cell? ⟨B,5,none⟩=some (.slice an L.length ao):=Y.cell J 5;have aT:=Z (B3.Vv aa.out aL N G aQ);have cq:=Z a3.out;refine bG.out _ _ (Y.cell J 5) ?_;simp only[Act.put,BH,BI,BJ];refine Ag fun cr bH=>?_
    refine Aa (.pointer (some ⟨B,5,none⟩)) wA (by rfl) (by go_simp) ?_;refine bH.out _ _ (Y.cell J 5) ?_;simp only[Act.put,BH,BI,BJ];refine CR ?_;clear aL N G aQ a6 co bE bF J bD bG bH cj cp cr cn a5 ak aG;go_wp2_with fail;go_meet;case rel=>exact⟨l,aK,_,cq.out,aT.out⟩
  case rest=>
   obtain⟨l,aK,bA,ap,bI⟩:=hcut;obtain⟨bJ,_,a5⟩:=Dz bz.out ap;have cs:=Z ap;have aT:=Z bI;obtain⟨t,z,rfl⟩:=bJ.ne;have O:=Z (show S.length+D.length+(L++l).length+(t::z).length<=ts.length/\(t::z).length<=T.length/\T.length<f+1/\T.length<=gk by have:=a4.out;rw[BG];omega);obtain⟨an,ao,rfl,_,_⟩:=Own.form bI.DJ;clear a5 ap bJ aG ak;obtain⟨az,aM⟩:=aT.out.t;obtain⟨cU,cV,g,cW,cX,ct,rfl,G,aC,bK,bL,bM⟩:=aM.head;injection ct with cu cv;subst cu cv;obtain⟨d0,d1,d2⟩:=aM.cells;have lb:=Y.lt aM.BF;have bN:=(aM.Lc t (En ..)).1;have bO:(0:Int)<(((t::z).length:Nat):Int):=(by simp only[BR];omega);have a7:=Z (show R=((if t.k≠1 then .ok (Cq S D (L++l)) (t::z) ns else if 0<D.length then Co f (Cq S (D++[t.t]) (L++l)) z ns else if GC t.t=true then Co f (Cq (S++[t.t]) D (L++l)) z ns else if(t.t !=F1&&Df t.t)=true then .ok (Cq S D (L++l)) (t::z) ns else Co f (Cq S (D++[t.t]) (L++l)) z ns:PR V)).bind Ew by rw[<-bw.out,Co,cs.out,PR.Bm];rfl);have aN:=Z (show(Cq S D (L++l)).AZ.length+(Cq S D (L++l)).words.length+(Cq S D (L++l)).AK.length<=100000/\ns.length+10*(t::z).length+(if S.length+D.length+(L++l).length=0 then 0 else 5)<=100000 by
    have br:=O.out;have cY:=a0.out;refine⟨by show S.length+D.length+(L++l).length<=100000;omega,?_⟩;split<;>omega)
   obtain⟨cZ,bP⟩:=U ((t::z).length);rw[bP]at d0 bO G;clear aM bP;obtain⟨ad,h,X⟩:=t;simp only[]at bK bL bM bN;have cw:=Z (bk.out h (wc.alloc (.cells #[.int .i64 ad,.string ⟨h.toArray⟩,.int .i64 X] 69)) (by omega));have K:=Z (aT.out.grown aa.out (AF (AB wc none) (.cells #[.int .i64 ad,.string ⟨h.toArray⟩,.int .i64 X] 69)));clear bN;go_wp2_with fail;refine cw.out.mono ?_;rintro e w' ⟨rfl,rfl⟩;obtain⟨ac,a8⟩:=U (Fp true h);have cx:=Z a8;simp only[a8];have c0:S.length+D.length+(L++l).length<=100000:=aN.out.1;have a9:(wc.alloc (.cells #[.int .i64 ad,.string ⟨h.toArray⟩,.int .i64 X] 69)).cell? ⟨B,4,none⟩=some (.slice ae D.length af):=Y.cell K.out.box 4;have bQ:(wc.alloc (.cells #[.int .i64 ad,.string ⟨h.toArray⟩,.int .i64 X] 69)).cell? ⟨B,3,none⟩=some (.slice aA S.length aB):=Y.cell K.out.box 3;have aU:=Y.new wc 69 #[.int .i64 ad,.string ⟨h.toArray⟩,.int .i64 X];have a':(wc.alloc (.cells #[.int .i64 ad,.string ⟨h.toArray⟩,.int .i64 X] 69)).cell? ⟨wc.heap.size,0,none⟩=some (.int .i64 ad):=Y.cell aU 0;have aV:(wc.alloc (.cells #[.int .i64 ad,.string ⟨h.toArray⟩,.int .i64 X] 69)).cell? ⟨wc.heap.size,1,none⟩=some (.string ⟨h.toArray⟩):=Y.cell aU 1;have ak:=Y.lt K.out.box;have aO:=Y.lt aU;clear a8 d0 d1 d2 lb bO G aC bK bL bM aU;obtain⟨cy,bR⟩:=U (wc.alloc (.cells #[.int .i64 ad,.string ⟨h.toArray⟩,.int .i64 X] 69));obtain⟨cz,bS⟩:=U wc.heap.size;rw[bR]at a9 bQ a' aV ak aO K⊢;rw[bS]at a' aV aO⊢;clear bR bS;obtain⟨aq,ba⟩:=U D.length;have ar:=Z ba;rw[ba]at a9 K;clear ba;by_cases bT:ad=1
   ·subst bT;by_cases bU:0<aq
    ·have c1:decide ((0:Int)<(aq:Int))=true:=Au (by omega);have ab:=Z (show(Co f (Cq S (D++[h]) (L++l)) z ns).bind Ew=R from(a7.out.trans (by rw[AP (by simp),Ai (by have:=ar.out;omega)])).symm);have c2:decide (0<aq)=true:=Au bU;clear bQ;go_wp2_with (at_builtin;go_loud (refine AV 9 (.string ⟨#[]⟩) 1 16 underlying27 EA rfl (.slice ae aq af) D.length (D.map sv) 0 _ 1 [sv h] rfl rfl (Own.alloc K.out.words _) (by omega) (Jz _ _ h rfl) (by unfold maxLen;omega) (by omega) ?_);intro vA wA N G ag _;(have J:=K.out.O5 _ G);(have aS:=Y.frozen J 4);(have ak:=Y.lt J);(have bb:wA.cell? ⟨B,4,none⟩=some (.slice ae aq af):=Y.cell J 4);obtain⟨au,aw,F,_,_⟩:=Own.form N;go_must (replace F:vA=.slice au (aq+1) aw:=by(first|exact F|(rw[ar.out]at F;exact F)));subst F;(have ah:=Z (B3.Sz aa.out K.out _ N G ag));clear N G ag);refine(aD.out _ ⟨1,h,X⟩ z ah.out.t (by simp)).mono ?_;rintro e bc ⟨v,rfl,rfl,ai,aj⟩;have ax:=Z (B3.step aa.out ah.out aj ai);clear ai aj;go_wp2_with fail;go_roundg (gk-1);case rel=>exact⟨f,_,_,_,z,_,_,_,ab.out,by have:=O.out;simp only[BR]at this;omega,by have:=O.out;simp only[BR]at this;omega,by have:=O.out;simp only[BR,BG]at this;simp only[BG,Cj];omega,ax.out⟩
     case measure=>have:=O.out;simp only[BR]at this;omega
    ·obtain rfl:D=[]:=List.eq_nil_of_length_eq_zero (by have:=ar.out;omega);obtain rfl:aq=0:=by rw[<-ar.out];rfl
     have bV:GC h=(decide (0<ac)&&decide (ac<h.length)&&(h.getD ac 0==61)):=(by rw[<-cx.out];rfl);have bd:=Z bV;have be:=Z (show R=((if GC h=true then Co f (Cq (S++[h]) [] (L++l)) z ns else if(h !=F1&&Df h)=true then .ok (Cq S [] (L++l)) (⟨1,h,X⟩::z) ns else Co f (Cq S ([]++[h]) (L++l)) z ns:PR V)).bind Ew from a7.out.trans (by rw[AP (by simp),AP (by simp)]));clear bV bU;go_upto_region 9 with(fail);go_cut [45] (fun cA aE=>cA=.bool (GC h)/\aE=cy);case first=>
      have c5:=sz h;by_cases bW:0<ac
      ·have cB:decide ((0:Int)<(ac:Int))=true:=Au (by omega);by_cases aW:ac<h.length
       ·have cC:decide ((ac:Int)<(h.length:Int))=true:=Au (by omega);have cD:=BE h ac aW;have c6:(0:Int)<=ac/\(ac:Int)<(h.length:Int):=(by omega);have ay:=Z (show GC h=(h[ac]==61) by rw[bd.out,Au bW,Au aW,UI aW];rfl);obtain⟨c,bX⟩:=U (h[ac]);rw[bX]at cD ay;clear bX;by_cases bf:c=61
        ·subst bf;go_wp2_with fail;go_meet;exact⟨by rw[ay.out];rfl,rfl⟩
        ·have c7:((c.toNat:Int)==61)=false:=Aw (d:=61) bf;go_wp2_with fail;go_meet;exact⟨by rw[ay.out,Bd bf],rfl⟩
       ·have cC:decide ((ac:Int)<(h.length:Int))=false:=As (by omega);have ay:=Z (show GC h=false by rw[bd.out,As aW];simp);go_wp2_with fail;go_meet;exact⟨by rw[ay.out],rfl⟩
      ·have cB:decide ((0:Int)<(ac:Int))=false:=As (by omega);have ay:=Z (show GC h=false by rw[bd.out,As bW];simp);go_wp2_with fail;go_meet;exact⟨by rw[ay.out],rfl⟩
     case rest=>
      obtain⟨rfl,rfl⟩:=hcut;obtain⟨cE,bg⟩:=U (GC h);rw[bg]at be;simp only[bg];clear bg;cases cE with
      |true=>
       have ab:=Z (show(Co f (Cq (S++[h]) [] (L++l)) z ns).bind Ew=R from be.out.symm);go_wp2_with (at_builtin;go_loud (refine AV 9 (.string ⟨#[]⟩) 1 16 underlying27 EA rfl (.slice aA S.length aB) S.length (S.map sv) 0 _ 1 [sv h] rfl rfl (Own.alloc K.out.AZ _) (by omega) (Jz _ _ h rfl) (by unfold maxLen;omega) (by omega) ?_);intro vA wA N G ag _;(have J:=K.out.Rt _ G);(have aS:=Y.frozen J 3);(have ak:=Y.lt J);(have bb:wA.cell? ⟨B,3,none⟩=some (.slice aA S.length aB):=Y.cell J 3);obtain⟨au,aw,F,_,_⟩:=Own.form N;go_must (replace F:vA=.slice au (S.length+1) aw:=by(first|exact F|(rw[ar.out]at F;exact F)));subst F;(have ah:=Z (B3.Vp aa.out K.out _ N G ag));clear N G ag);refine(aD.out _ ⟨1,h,X⟩ z ah.out.t (by simp)).mono ?_;rintro e bc ⟨v,rfl,rfl,ai,aj⟩;have ax:=Z (B3.step aa.out ah.out aj ai);clear ai aj;go_wp2_with fail;go_roundg (gk-1);case rel=>exact⟨f,_,_,_,z,_,_,_,ab.out,by have:=O.out;simp only[BR]at this;omega,by have:=O.out;simp only[BR]at this;omega,by have:=O.out;simp only[BR,BG]at this;simp only[BG,Cj];omega,ax.out⟩
       case measure=>have:=O.out;simp only[BR]at this;omega
      |false=>
       have bY:=Z (show R=((if(h !=F1&&Df h)=true then .ok (Cq S [] (L++l)) (⟨1,h,X⟩::z) ns else Co f (Cq S ([]++[h]) (L++l)) z ns:PR V)).bind Ew from be.out);by_cases aX:h=F1
       ·have ab:=Z (show(Co f (Cq S ([]++[h]) (L++l)) z ns).bind Ew=R from(bY.out.trans (by rw[AP (by rw[aX];decide)])).symm);obtain rfl:h=[105,110]:=aX;go_wp2_with (at_builtin;go_loud (refine AV 9 (.string ⟨#[]⟩) 1 16 underlying27 EA rfl (.slice ae 0 af) ([]:List (List UInt8)).length (([]:List (List UInt8)).map sv) 0 _ 1 [sv [105,110]] rfl rfl (Own.alloc K.out.words _) (by omega) (Jz _ _ [105,110] rfl) (by unfold maxLen;omega) (by omega) ?_);intro vA wA N G ag _;(have J:=K.out.O5 _ G);(have aS:=Y.frozen J 4);(have ak:=Y.lt J);(have bb:wA.cell? ⟨B,4,none⟩=some (.slice ae 0 af):=Y.cell J 4);obtain⟨au,aw,F,_,_⟩:=Own.form N;go_must (replace F:vA=.slice au (1) aw:=by(first|exact F|(rw[ar.out]at F;exact F)));subst F;(have ah:=Z (B3.Sz aa.out K.out _ N G ag));clear N G ag);refine(aD.out _ ⟨1,[105,110],X⟩ z ah.out.t (by simp)).mono ?_;rintro e bc ⟨v,rfl,rfl,ai,aj⟩;have ax:=Z (B3.step aa.out ah.out aj ai);clear ai aj;go_wp2_with fail;go_roundg (gk-1);case rel=>exact⟨f,_,_,_,z,_,_,_,ab.out,by have:=O.out;simp only[BR]at this;omega,by have:=O.out;simp only[BR]at this;omega,by have:=O.out;simp only[BR,BG]at this;simp only[BG,Cj];omega,ax.out⟩
        case measure=>have:=O.out;simp only[BR]at this;omega
       ·have aI:(h !=[105,110])=true:=(by rw[bne_iff_ne];exact aX);have c8:(h==[105,110])=false:=(by rw[A4];exact aX);have bh:=Z (show R=((if Df h=true then .ok (Cq S [] (L++l)) (⟨1,h,X⟩::z) ns else Co f (Cq S ([]++[h]) (L++l)) z ns:PR V)).bind Ew from bY.out.trans (by rw[show(h !=F1)=true from aI,Bool.true_and]));have bZ:=Z (bj.out h wc);obtain⟨cF,b0⟩:=U (Df h);rw[b0]at bh bZ;clear b0;go_wp2_with fail;refine bZ.out.mono ?_;rintro e b1 ⟨rfl,aY⟩;have aZ:=K.out.grown aa.out aY;have c9:b1.cell? ⟨B,4,none⟩=some (.slice ae 0 af):=Y.cell aZ.box 4;have c':b1.cell? ⟨cz,1,none⟩=some (.string ⟨h.toArray⟩):=AH aY aO aV;have da:=Y.lt aZ.box;have db:=DZ aO aY.size;clear K;have K:=Z aZ;clear aZ a9 aV a' ak aO aY;cases cF with
        |true=>
         have ab:=Z (show R=Ew (Cq S [] (L++l)) (⟨1,h,X⟩::z) ns from bh.out);go_wp2_with fail;go_meet;case rel=>exact⟨S,[],L++l,_,_,_,_,ab.out,aN.out.1,aN.out.2,K.out⟩
        |false=>
         have ab:=Z (show(Co f (Cq S ([]++[h]) (L++l)) z ns).bind Ew=R from bh.out.symm);go_wp2_with (at_builtin;go_loud (refine AV 9 (.string ⟨#[]⟩) 1 16 underlying27 EA rfl (.slice ae 0 af) ([]:List (List UInt8)).length (([]:List (List UInt8)).map sv) 0 _ 1 [sv h] rfl rfl (Own.alloc K.out.words _) (by omega) (Jz _ _ h rfl) (by unfold maxLen;omega) (by omega) ?_);intro vA wA N G ag _;(have J:=K.out.O5 _ G);(have aS:=Y.frozen J 4);(have ak:=Y.lt J);(have bb:wA.cell? ⟨B,4,none⟩=some (.slice ae 0 af):=Y.cell J 4);obtain⟨au,aw,F,_,_⟩:=Own.form N;go_must (replace F:vA=.slice au (1) aw:=by(first|exact F|(rw[ar.out]at F;exact F)));subst F;(have ah:=Z (B3.Sz aa.out K.out _ N G ag));clear N G ag);refine(aD.out _ ⟨1,h,X⟩ z ah.out.t (by simp)).mono ?_;rintro e bc ⟨v,rfl,rfl,ai,aj⟩;have ax:=Z (B3.step aa.out ah.out aj ai);clear ai aj;go_wp2_with fail;go_roundg (gk-1);case rel=>exact⟨f,_,_,_,z,_,_,_,ab.out,by have:=O.out;simp only[BR]at this;omega,by have:=O.out;simp only[BR]at this;omega,by have:=O.out;simp only[BR,BG]at this;simp only[BG,Cj];omega,ax.out⟩
         case measure=>have:=O.out;simp only[BR]at this;omega
   ·have dc:((ad:Int) !=1)=true:=(by rw[bne_iff_ne];omega);have ab:=Z (show R=Ew (Cq S D (L++l)) (⟨ad,h,X⟩::z) ns from a7.out.trans (by rw[Ai bT];rfl));go_wp2_with fail;go_meet;case rel=>exact⟨S,D,L++l,_,_,_,_,ab.out,aN.out.1,aN.out.2,K.out⟩
end Go.Proofs.YtdhfhphbkfgamaaGreat
