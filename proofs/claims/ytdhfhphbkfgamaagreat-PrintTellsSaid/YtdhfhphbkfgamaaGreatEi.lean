/- PrintTells: a part of its proof. -/
import Derived.Test.YtdhfhphbkfgamaaGreatEg
import Derived.Test.YtdhfhphbkfgamaaGreatPm
set_option maxRecDepth 100000
set_option maxHeartbeats 64000000
namespace Go.Proofs.YtdhfhphbkfgamaaGreat
open Go.RowKit Lx
def F0 (h:World→List V→Value→Prop) (bad:World→Value→Prop) (rb:Nat) (T:List AX) (d:Nat) (w:World):PR Int→Ending→World→Prop
 | .ok _ ts ns,e,w'=> ∃v,e=.returned v∧h w' ns v∧BS w' rb T (.ok ts d)∧w.grownBy w' (some rb)
 | .bad a k,e,w'=> ∃v,e=.returned v∧bad w' v∧BS w' rb T (.er a k)∧w.grownBy w' (some rb)
def Fe (w0:World):World→List V→Value→Prop:=fun w' ns v=>Cm (low w0) w' v ns∧KB ns∧ns.length≤50000∧ ∀g,v.ownBlock=some g→w0.heap.size≤g
def Sf:World→Value→Prop:=fun _ v=> ∃a n c,v=.slice a n c
structure Gz (w W:World) (rb:Nat) (T:List AX) (st:DS) (B:Nat) (S D:List (List UInt8)) (L:List Rd) (a b r:Value):Prop where
 st:BS W rb T st
 box:Y W B 32 #[.int .i64 1,.string ⟨#[]⟩,.bool false,a,b,r,.slice none 0 0,.slice none 0 0]
 hB:w.heap.size≤B
 AY:DV W a S
 words:DV W b D
 DB:I4 W r L
 na: ∀k,a.ownBlock=some k→w.heap.size≤k
 nb: ∀k,b.ownBlock=some k→w.heap.size≤k
 nr: ∀k,r.ownBlock=some k→w.heap.size≤k
 ab: ∀k,a.ownBlock=some k→b.ownBlock=some k→False
 gr:w.grownBy W (some rb)
 Ex:rb<w.heap.size
section
variable {w W W' wA:World} {rb B:Nat} {T:List AX} {st st':DS} {S D:List (List UInt8)} {L:List Rd} {a b r vA:Value}
theorem Gz.step (h:Gz w W rb T st B S D L a b r) (z:W.grownBy W' (some rb)) (G:BS W' rb T st'):Gz w W' rb T st' B S D L a b r:=by
 have F:=h.st.AN;exact⟨G,Y.grown h.box z (fun e=>by injection e with e;have:=h.hB;have:=h.Ex;omega),h.hB,Da z F h.AY (by decide),Da z F h.words (by decide),Da z F h.DB (by decide),h.na,h.nb,h.nr,h.ab,AJ h.gr z,h.Ex⟩
theorem Gz.grown (h:Gz w W rb T st B S D L a b r) (z:W.grownBy W' none):Gz w W' rb T st B S D L a b r:=h.step (Bp z) (h.st.grown z)
theorem Gz.RJ (h:Gz w W rb T st B S D L a b r) (o:Obj) (z:Az (fun k=>a.ownBlock=some k) (W.alloc o) wA):Y wA B 32 #[.int .i64 1,.string ⟨#[]⟩,.bool false,a,b,r,.slice none 0 0,.slice none 0 0]:=
 Y.Bl (h.box.alloc o) z (fun e=>Ai ((Own.AN h.AY e).uniq h.box.AN) (by decide))
theorem Gz.U9 (h:Gz w W rb T st B S D L a b r) (o:Obj) {x:List UInt8} (G:Own wA 9 1 vA (S.length+1) (S.map sv++[sv x]) 0) (I:Az (fun k=>a.ownBlock=some k) (W.alloc o) wA) (J: ∀k,vA.ownBlock=some k→a.ownBlock=some k∨(W.alloc o).heap.size≤k):
  Gz w (wA.setCell ⟨B,3,none⟩ vA) rb T st B (S++[x]) D L vA b r:=by
 have K:=h.RJ o I;have X: ∀k,a.ownBlock=some k→Bk (W.alloc o) k 9:=fun k e=>Own.AN (Own.alloc h.AY o) e
 have M:Bk (W.alloc o) B 32:=(h.box.alloc o).AN;have F:Az (fun k=>a.ownBlock=some k∨k=B) (W.alloc o) (wA.setCell ⟨B,3,none⟩ vA):=Az.setCell (Az.mono I fun k _ e=> .inl e) (p:=⟨B,3,none⟩) (.inl (.inr rfl)) vA;have N: ∀k,(a.ownBlock=some k∨k=B)→w.heap.size≤k:=fun k e=>by
  rcases e with e|rfl
  ·exact h.na k e
  ·exact h.hB
 have aa:BS (wA.setCell ⟨B,3,none⟩ vA) rb T st:=(h.st.grown (AF (AB W none) o)).Bl F fun k e=>by have:=N k e;have:=h.Ex;omega
 have ac:w.grownBy (wA.setCell ⟨B,3,none⟩ vA) (some rb):=Fq h.gr o F N;have ad:Own (wA.setCell ⟨B,3,none⟩ vA) 9 1 b D.length (D.map sv) 0:=(Own.alloc h.words o).Bl F (fun g z e=>by
  rcases e with e|rfl
  ·exact h.ab g (by first|exact z|exact e) (by first|exact e|exact z)
  ·exact Ai ((Own.AN (Own.alloc h.words o) z).uniq M) (by decide))
 have ae:Own (wA.setCell ⟨B,3,none⟩ vA) 9 1 vA (S++[x]).length ((S++[x]).map sv) 0:=by
  rw[BE,Cd,List.map_append];exact G.Be (p:=⟨B,3,none⟩) (fun e=>Ai ((Own.AN G e).uniq K.AN) (by decide)) _
 have af:I4 (wA.setCell ⟨B,3,none⟩ vA) r L:=(Own.alloc h.DB o).Bl F (fun g z e=>by
  rcases e with e|rfl
  ·exact Ai ((Own.AN (Own.alloc h.DB o) z).uniq (X g e)) (by decide)
  ·exact Ai ((Own.AN (Own.alloc h.DB o) z).uniq M) (by decide))
 refine⟨aa,Y.AV K 3 _,h.hB,ae,ad,af,?_,?_,h.nr,?_,ac,h.Ex⟩
 ·exact fun k hk=>by
    rcases J k hk with e|e
    ·exact h.na k e
    ·rw[World.size_alloc]at e;have:=h.gr.size;omega
 ·exact h.nb
 ·exact fun k hk O=>by
    rcases J k hk with e|e
    ·exact h.ab k e O
    ·have:=Own.lt h.words O;rw[World.size_alloc]at e;omega
theorem Gz.OM (h:Gz w W rb T st B S D L a b r) (o:Obj) (z:Az (fun k=>b.ownBlock=some k) (W.alloc o) wA):Y wA B 32 #[.int .i64 1,.string ⟨#[]⟩,.bool false,a,b,r,.slice none 0 0,.slice none 0 0]:=
 Y.Bl (h.box.alloc o) z (fun e=>Ai ((Own.AN h.words e).uniq h.box.AN) (by decide))
theorem Gz.RF (h:Gz w W rb T st B S D L a b r) (o:Obj) {x:List UInt8} (G:Own wA 9 1 vA (D.length+1) (D.map sv++[sv x]) 0) (I:Az (fun k=>b.ownBlock=some k) (W.alloc o) wA) (J: ∀k,vA.ownBlock=some k→b.ownBlock=some k∨(W.alloc o).heap.size≤k):
  Gz w (wA.setCell ⟨B,4,none⟩ vA) rb T st B S (D++[x]) L a vA r:=by
 have K:=h.OM o I;have O: ∀k,b.ownBlock=some k→Bk (W.alloc o) k 9:=fun k e=>Own.AN (Own.alloc h.words o) e
 have M:Bk (W.alloc o) B 32:=(h.box.alloc o).AN;have F:Az (fun k=>b.ownBlock=some k∨k=B) (W.alloc o) (wA.setCell ⟨B,4,none⟩ vA):=Az.setCell (Az.mono I fun k _ e=> .inl e) (p:=⟨B,4,none⟩) (.inl (.inr rfl)) vA;have N: ∀k,(b.ownBlock=some k∨k=B)→w.heap.size≤k:=fun k e=>by
  rcases e with e|rfl
  ·exact h.nb k e
  ·exact h.hB
 have X:BS (wA.setCell ⟨B,4,none⟩ vA) rb T st:=(h.st.grown (AF (AB W none) o)).Bl F fun k e=>by have:=N k e;have:=h.Ex;omega
 have aa:w.grownBy (wA.setCell ⟨B,4,none⟩ vA) (some rb):=Fq h.gr o F N;have ac:Own (wA.setCell ⟨B,4,none⟩ vA) 9 1 a S.length (S.map sv) 0:=(Own.alloc h.AY o).Bl F (fun g z e=>by
  rcases e with e|rfl
  ·exact h.ab g (by first|exact z|exact e) (by first|exact e|exact z)
  ·exact Ai ((Own.AN (Own.alloc h.AY o) z).uniq M) (by decide))
 have ad:Own (wA.setCell ⟨B,4,none⟩ vA) 9 1 vA (D++[x]).length ((D++[x]).map sv) 0:=by
  rw[BE,Cd,List.map_append];exact G.Be (p:=⟨B,4,none⟩) (fun e=>Ai ((Own.AN G e).uniq K.AN) (by decide)) _
 have ae:I4 (wA.setCell ⟨B,4,none⟩ vA) r L:=(Own.alloc h.DB o).Bl F (fun g z e=>by
  rcases e with e|rfl
  ·exact Ai ((Own.AN (Own.alloc h.DB o) z).uniq (O g e)) (by decide)
  ·exact Ai ((Own.AN (Own.alloc h.DB o) z).uniq M) (by decide))
 refine⟨X,Y.AV K 4 _,h.hB,ac,ad,ae,?_,?_,h.nr,?_,aa,h.Ex⟩
 ·exact h.na
 ·exact fun k hk=>by
    rcases J k hk with e|e
    ·exact h.nb k e
    ·rw[World.size_alloc]at e;have:=h.gr.size;omega
 ·exact fun k hk af=>by
    rcases J k af with e|e
    ·exact h.ab k hk e
    ·have:=Own.lt h.AY hk;rw[World.size_alloc]at e;omega
theorem Gz.RS (h:Gz w W rb T st B S D L a b r) (z:Az (fun k=>r.ownBlock=some k) W wA):Y wA B 32 #[.int .i64 1,.string ⟨#[]⟩,.bool false,a,b,r,.slice none 0 0,.slice none 0 0]:=
 Y.Bl h.box z (fun e=>Ai ((Own.AN h.DB e).uniq h.box.AN) (by decide))
theorem Gz.U8 (h:Gz w W rb T st B S D L a b r) {l:List Rd} (G:Own wA 34 3 vA (L.length+l.length) (L.flatMap Rd.cells++l.flatMap Rd.cells) 0) (I:Az (fun k=>r.ownBlock=some k) W wA) (O: ∀k,vA.ownBlock=some k→r.ownBlock=some k∨W.heap.size≤k):
  Gz w (wA.setCell ⟨B,5,none⟩ vA) rb T st B S D (L++l) a b vA:=by
 have J:=h.RS I;have K: ∀k,r.ownBlock=some k→Bk W k 34:=fun k e=>Own.AN h.DB e
 have M:Bk W B 32:=h.box.AN;have z:Az (fun k=>r.ownBlock=some k∨k=B) W (wA.setCell ⟨B,5,none⟩ vA):=Az.setCell (Az.mono I fun k _ e=> .inl e) (p:=⟨B,5,none⟩) (.inl (.inr rfl)) vA;have N: ∀k,(r.ownBlock=some k∨k=B)→w.heap.size≤k:=fun k e=>by
  rcases e with e|rfl
  ·exact h.nr k e
  ·exact h.hB
 have X:I4 (wA.setCell ⟨B,5,none⟩ vA) vA (L++l):=by
  unfold I4;rw[BE,List.flatMap_append];exact G.Be (p:=⟨B,5,none⟩) (fun e=>Ai ((Own.AN G e).uniq J.AN) (by decide)) _
 refine⟨h.st.Bl z (fun k e=>by have:=N k e;have:=h.Ex;omega),Y.AV J 5 _,h.hB,Own.Bl h.AY z (fun g F e=>?_),Own.Bl h.words z (fun g F e=>?_),X,h.na,h.nb,fun k hk=>?_,h.ab,?_,h.Ex⟩
 ·rcases e with e|rfl
  ·exact Ai ((Own.AN h.AY F).uniq (K g e)) (by decide)
  ·exact Ai ((Own.AN h.AY F).uniq M) (by decide)
 ·rcases e with e|rfl
  ·exact Ai ((Own.AN h.words F).uniq (K g e)) (by decide)
  ·exact Ai ((Own.AN h.words F).uniq M) (by decide)
 ·rcases O k hk with e|e
  ·exact h.nr k e
  ·have:=h.gr.size;omega
 ·exact⟨z.os.trans h.gr.os,z.tape.trans h.gr.tape,z.output.trans h.gr.output,Ef h.gr.size z.size,fun k hk aa=>(z.block k (DP hk h.gr.size) (fun e=>by have:=N k e;omega)).trans (h.gr.block k hk aa)⟩
theorem Gz.start {ts:List AX} {d:Nat} (h:BS w rb T (.ok ts d)):Gz w (w.alloc (.cells #[.int .i64 1,.string ⟨#[]⟩,.bool false,.slice none 0 0,.slice none 0 0,.slice none 0 0,.slice none 0 0,.slice none 0 0] 32)) rb T (.ok ts d) w.heap.size [] [] [] (.slice none 0 0) (.slice none 0 0) (.slice none 0 0):=
 ⟨h.grown (AF (AB w none) _),Y.new w 32 _,BL _,Own.nil _ _ _ _,Own.nil _ _ _ _,Own.nil _ _ _ _,fun k hk=>(by cases hk),fun k hk=>(by cases hk),fun k hk=>(by cases hk),fun k hk=>(by cases hk),AF (AB w _) _,h.lb⟩
theorem Gz.node (h:Gz w W rb T st B S D L a b r):Bi (low w) W a b r (.slice none 0 0) (.slice none 0 0) { kind:=1,AY:=S,words:=D,AK:=L } :=
 ⟨h.AY,h.words,h.DB,⟨[],Own.nil _ _ _ _,fun b z=>(by cases z),fun i F=>Ai F (by simp)⟩,Own.nil _ _ _ _,fun k hk e=>Ai e (Nat.not_lt.2 (h.na k hk)),fun k hk e=>Ai e (Nat.not_lt.2 (h.nb k hk)),fun k hk e=>Ai e (Nat.not_lt.2 (h.nr k hk)),fun k hk e=>(by cases hk)⟩
end
def Xs (h:PR (List Rd)) (d:Nat) (l:List Rd):DS→Prop
 | .ok ts z=>z=d∧ ∃ns,h=.ok l ts ns
 | .er a k=>h=.bad a k
theorem Ks {w w':World} {rb d:Nat} {T:List AX} {h:PR (List Rd)} {e:Ending} (J:NS (TR w) (Wk w) rb T d w h e w'): ∃v l st,e=.returned v∧TR w w' l v∧BS w' rb T st∧w.grownBy w' (some rb)∧Xs h d l st:=by
 cases h with
 |ok x ts ns=>
  obtain⟨v,z,F,G,I⟩:=J;exact⟨v,x,_,z,F,G,I,rfl,ns,rfl⟩
 |bad a k=>
  obtain⟨v,z,⟨l,F⟩,G,I⟩:=J;exact⟨v,l,_,z,F,G,I,rfl⟩
theorem Pg: ∀s∈LD,Fj s=false:=by decide
theorem Sl {s:List UInt8} (h:DW s=true):Fj s=false:=Pg s (by unfold DW at h;simpa using h)
theorem node1 {av:Nat→Prop} {w:World} {a b r:Value} {n:V} (h:Bi av w a b r (.slice none 0 0) (.slice none 0 0) n):Cm av (w.alloc (.cells (AT n a b r (.slice none 0 0) (.slice none 0 0)).toArray 32)) (.slice (some ⟨w.heap.size,0,none⟩) 1 1) [n]:=by
 refine⟨AT n a b r (.slice none 0 0) (.slice none 0 0),⟨rfl,.inr ⟨w.heap.size,0,1,_,(0,0),rfl,Y.new w 32 _,BL _,BL _,by unfold maxLen;omega,by show 0+1*8≤8;omega,fun j G=>by rw[Nat.zero_add];simp⟩⟩,fun i z=>?_⟩;have F:i=0:=(by simpa using z);subst F;exact⟨a,b,r,_,_,rfl,h.fr (base:=fun _=>False) (Fr.AL (AF (AB w none) _))⟩
theorem Z0h {P:Prop} (h:P:=by
 have ak:=Z N;clear af N;go_wp2_with fail;go_meet;exact⟨by rw[ak.out],AB _ _⟩):P:=h
theorem Z0i {P:Prop} (h:P:=by
 go_wp2_with fail;refine bc.out.mono ?_;rintro e cW ⟨rfl,bI⟩;go_wp2_with fail;go_meet;exact⟨by first|(rw[ak.out];done)|(rw[ak.out];simp[bm]),bI⟩):P:=h
theorem Mw (rb:Nat) (T ts:List AX) (d:Nat) (w:World) (h:BS w rb T (.ok ts d)):
  Calls Tryz.prog 119 #[.pointer (some ⟨rb,0,none⟩)] w (F0 (Fe w) Sf rb T d w (IT ts [])):=by
 have cv:=Z (fun W st (bq:BS W rb T st)=>EE rb T st W bq);have cw:=Z (fun W ts (bq:BS W rb T (.ok ts d))=>Ji rb T ts d W bq);have bM:=Z (fun s W=>Ih s W);have bN:=Z (fun s W h=>Qn s W h);unfold Qb sv at bM bN;have cx:=Z h.Aj;have br:=Z (Gz.start h);show Calls Tryz.prog 119 #[.pointer (some ⟨rb,0,none⟩)] w (F0 (Fe w) Sf rb T d w ((Ci (ts.length+1) { kind:=1 } ts []).bind Ee));obtain⟨R,ax⟩: ∃R,(Ci (ts.length+1) { kind:=1 } ts []).bind Ee=R:=⟨_,rfl⟩;have cy:=Z (show(Ci (ts.length+1) (Cl [] [] []) ts []).bind Ee=R from ax);rw[ax];obtain⟨B,bO⟩: ∃B,w.heap.size=B:=⟨_,rfl⟩;rw[bO]at br;clear ax h;go_enter Tryz.func119,Tryz.ntmps119;go_upto_block 0 with(fail);obtain⟨bP,bQ⟩: ∃bP,w.alloc (.cells #[.int .i64 1,.string ⟨#[]⟩,.bool false,.slice none 0 0,.slice none 0 0,.slice none 0 0,.slice none 0 0,.slice none 0 0] 32)=bP:=⟨_,rfl⟩;rw[bQ]at br⊢;clear bQ bO;go_cut [4] (fun cz ay=> ∃(S D:List (List UInt8)) (L:List Rd) (st:DS) (a b r:Value),S.length+D.length+L.length≤2000∧((∃O,st=.ok O d∧R=Ee (Cl S D L) O [])∨(∃x k,st=.er x k∧R=.bad x k))∧Gz w ay rb T st B S D L a b r);case rest=>
  obtain⟨S,D,L,st,a,b,r,c9,ax,F⟩:=hcut;have bf:=Z ax;have aq:=Z F;obtain⟨ai,aj,rfl,_,_⟩:=Own.form F.AY;obtain⟨ab,ac,rfl,_,_⟩:=Own.form F.words;obtain⟨ad,ae,rfl,_,_⟩:=Own.form F.DB;have aU:=Y.lt F.box;have aV:wc.cell? ⟨B,0,none⟩=some (.int .i64 1):=Y.cell F.box 0;have aD:wc.cell? ⟨B,1,none⟩=some (.string ⟨#[]⟩):=Y.cell F.box 1;have bR:wc.cell? ⟨B,2,none⟩=some (.bool false):=Y.cell F.box 2;have cA:wc.cell? ⟨B,3,none⟩=some (.slice ai S.length aj):=Y.cell F.box 3;have cB:wc.cell? ⟨B,4,none⟩=some (.slice ab D.length ac):=Y.cell F.box 4;have a1:wc.cell? ⟨B,5,none⟩=some (.slice ad L.length ae):=Y.cell F.box 5;have bS:wc.cell? ⟨B,6,none⟩=some (.slice none 0 0):=Y.cell F.box 6;have bT:wc.cell? ⟨B,7,none⟩=some (.slice none 0 0):=Y.cell F.box 7;obtain⟨q,bU⟩: ∃q,((S.length:Int)+(D.length:Int)+(L.length:Int)==0)=q:=⟨_,rfl⟩;have c':S.length≤2000:=(by omega);have da:D.length≤2000:=(by omega);have db:L.length≤2000:=(by omega);have bV:=Z (cv.out wc st aq.out.st);unfold Qu at bV;have cC:=Z (fun(W:World) (F:Gz w W rb T st B S D L (.slice ai S.length aj) (.slice ab D.length ac) (.slice ad L.length ae)) (aK: ¬(S.length+D.length+L.length=0))=>(show∀v,v=Value.slice (some ⟨W.heap.size,0,none⟩) 1 1→F0 (Fe w) Sf rb T d w R (.returned v) (W.alloc (.cells #[.int .i64 1,.string ⟨#[]⟩,.bool false,.slice ai S.length aj,.slice ab D.length ac,.slice ad L.length ae,.slice none 0 0,.slice none 0 0] 32)) by
   intro v az;subst az;have a2:=F.st.grown (AF (AB W none) (.cells #[.int .i64 1,.string ⟨#[]⟩,.bool false,.slice ai S.length aj,.slice ab D.length ac,.slice ad L.length ae,.slice none 0 0,.slice none 0 0] 32));rcases bf.out with⟨O,aL,aM⟩|⟨x,k,aL,aM⟩
   ·subst aL;rw[aM,show Ee (Cl S D L) O []=PR.ok 0 O [Cl S D L]from U aK];exact⟨_,rfl,⟨node1 F.node,(by intro x hx;rw[List.mem_singleton]at hx;subst hx;exact⟨DM _,fun k hk=>by cases hk⟩),by simp,fun g aa=>by simp[Value.ownBlock]at aa;have:=F.gr.size;omega⟩,a2,AF F.gr _⟩
   ·subst aL;rw[aM];exact⟨_,rfl,⟨_,_,_,rfl⟩,a2,AF F.gr _⟩))
  clear ax F;cases q with
  |true=>
   have aK:S.length+D.length+L.length=0:=(by have:=eq_of_beq bU;omega);have bs:=Z (fun(W:World) (bt:BS W rb T (Ev st)) (am:wc.grownBy W (some rb))=>(show∀v,v=Value.slice (some ⟨W.heap.size,0,none⟩) 1 1→F0 (Fe w) Sf rb T d w R (.returned v) (W.alloc (.cells #[.int .i64 1,.string ⟨#[]⟩,.bool false,.slice ai S.length aj,.slice ab D.length ac,.slice ad L.length ae,.slice none 0 0,.slice none 0 0] 32)) by
    intro v az;subst az;have a2:=bt.grown (AF (AB W none) (.cells #[.int .i64 1,.string ⟨#[]⟩,.bool false,.slice ai S.length aj,.slice ab D.length ac,.slice ad L.length ae,.slice none 0 0,.slice none 0 0] 32));have bW:=AF (AJ aq.out.gr am) (.cells #[.int .i64 1,.string ⟨#[]⟩,.bool false,.slice ai S.length aj,.slice ab D.length ac,.slice ad L.length ae,.slice none 0 0,.slice none 0 0] 32);rcases bf.out with⟨O,aL,aM⟩|⟨x,k,aL,aM⟩
    ·subst aL;obtain⟨t,K,rfl⟩:=aq.out.st.Aj.1.ne;rw[aM,show Ee (Cl S D L) (t::K) []=PR.bad t.a (if t.k=4 then 23 else 17)from Ah aK];exact⟨_,rfl,⟨_,_,_,rfl⟩,a2,bW⟩
    ·subst aL;rw[aM];exact⟨_,rfl,⟨_,_,_,rfl⟩,a2,bW⟩))
   have cD:=Z (fun(W:World) (am:wc.grownBy W (some rb))=>Y.grown aq.out.box am (fun e=>by injection e with e;have:=aq.out.hB;have:=aq.out.Ex;omega));clear aK aV aD bR bS bT;go_wp2_with fail;refine bV.out.mono ?_;rintro e ar ⟨rfl,am,bu⟩;have bs:=Z (bs.out ar am bu);have G:=cD.out ar bu;have aU:=Y.lt G;have aV:ar.cell? ⟨B,0,none⟩=some (.int .i64 1):=Y.cell G 0;have aD:ar.cell? ⟨B,1,none⟩=some (.string ⟨#[]⟩):=Y.cell G 1;have bR:ar.cell? ⟨B,2,none⟩=some (.bool false):=Y.cell G 2;have cA:ar.cell? ⟨B,3,none⟩=some (.slice ai S.length aj):=Y.cell G 3;have cB:ar.cell? ⟨B,4,none⟩=some (.slice ab D.length ac):=Y.cell G 4;have a1:ar.cell? ⟨B,5,none⟩=some (.slice ad L.length ae):=Y.cell G 5;have bS:ar.cell? ⟨B,6,none⟩=some (.slice none 0 0):=Y.cell G 6;have bT:ar.cell? ⟨B,7,none⟩=some (.slice none 0 0):=Y.cell G 7;clear G am bu;go_wp2_with fail;go_ret;exact bs.out _ rfl
  |false=>
   have aK: ¬(S.length+D.length+L.length=0):=fun e=>beq_eq_false_iff_ne.1 bU (by omega)
   have cE:=Z (cC.out wc aq.out aK);clear aK;go_wp2_with fail;go_ret;exact cE.out _ rfl
 go_wp2_with fail;go_loopg [4] ts.length (fun g cz wr=> ∃(f:Nat) (S D:List (List UInt8)) (L:List Rd) (O:List AX) (a b r:Value),(Ci f (Cl S D L) O []).bind Ee=R∧O.length<f∧O.length≤g∧S.length+D.length+L.length+O.length≤ts.length∧Gz w wr rb T (.ok O d) B S D L a b r);case atStart=>exact⟨_,[],[],[],ts,_,_,_,cy.out,Nat.lt_succ_self _,BL _,by simp,br.out⟩
 case round=>
  obtain⟨ag,S,D,L,O,a,b,r,ax,bX,aa,bY,F⟩:=hrel;have bZ:=Z ax;have aq:=Z F;have dc:=cx.out.2.2.2.1;obtain⟨ai,aj,rfl,_,_⟩:=Own.form F.AY;obtain⟨ab,ac,rfl,_,_⟩:=Own.form F.words;obtain⟨ad,ae,rfl,_,_⟩:=Own.form F.DB;obtain⟨ag,rfl⟩: ∃cF,ag=cF+1:=⟨ag-1,by omega⟩;have b0:=F.st.Aj;have aU:=Y.lt F.box;have a1:wr.cell? ⟨B,5,none⟩=some (.slice ad L.length ae):=Y.cell F.box 5;have b1:=Z (aq.out.grown (Ag (AB wr none)));have b2:=Z (cw.out _ O b1.out.st);obtain⟨bg,aN⟩: ∃bg,CW O []=bg:=⟨_,rfl⟩;rw[aN]at b2;have bv:=Z aN;have b3:=Z (A8 bX (A8 aa bY));have cG:=Z b0;have b4:=Z (show L.length≤500 by omega);clear ax F aN b0 bX aa bY;obtain⟨bw,a,dd,h,aA,aO⟩:=aq.out.st;obtain⟨an,aE,aW,c3,c4⟩:=h.cells;have lb:=h.lb;clear h aA aO;go_upto_region 3 with(fail);clear an aE aW c3 c4 lb;go_cut [] (fun ay=> ∃(l:List Rd) (aX:DS) (b5:Value),Xs bg d l aX∧l.length≤1000∧Gz w ay rb T aX B S D (L++l) (.slice ai S.length aj) (.slice ab D.length ac) b5);case first=>
   refine DR [0,1,2] [3,4,5,6] (by kernel_rfl) (by kernel_rfl) (fun W'=>W'.cell? ⟨B,5,none⟩=some (.slice ad L.length ae)) a1 (by intro c a w d v h;cases d<;>exact h) ?_;simp only[pick,List.getElem?_cons_zero,List.getElem?_cons_succ];refine AQ ?_ (by rfl) ?_ ?_;rotate_left
   ·(intro b6 b7;go_simp;try with_reducible rfl)
   simp only[Act.put,BH,BF,BG];refine AQ ?_ (by rfl) ?_ ?_;rotate_left
   ·(intro b6 b7;go_simp;try with_reducible rfl)
   simp only[Act.put,BH,BF,BG];refine AQ ?_ (by rfl) ?_ ?_;rotate_left
   ·(intro b6 b7;go_simp;try with_reducible rfl)
   simp only[Act.put,BH,BF,BG];refine CP ?_;refine Ae fun cH b8=>?_
   refine Cn (by rfl) (by simp[execOp,resolve,invoke,go_sem]) b2.out (fun w' h=>by obtain⟨_,_,_,h,_⟩:=Ks h;cases h) ?_ (fun c w' h=>by obtain⟨_,_,_,h,_⟩:=Ks h;cases h);intro v de az;obtain⟨df,l,aX,az,⟨bx,cI,bz⟩,b9,b',aY⟩:=Ks az;injection az with az;subst az;have a3:=Gz.step b1.out b' b9;obtain⟨dg,dh,rfl,_,_⟩:=Own.form bx;refine b8.out _ _ (Y.cell a3.box 5) ?_;simp only[Act.put,BH,BF,BG];refine Ae fun cJ ca=>?_
   refine Ap (by rfl) (.tmp 12) (.tmp 14) 28 28 (by rfl) 34 (.agg #[.int .i64 0,.string ⟨#[]⟩,.string ⟨#[]⟩]) 3 40 Tryz.underlying28 J6 rfl (.slice ad L.length ae) L.length (L.flatMap Rd.cells) 0 _ l.length (l.flatMap Rd.cells) (by rfl) (by rfl) a3.DB (by omega) (UW bx) (by have:=b4.out;unfold maxLen;omega) (by have:=b4.out;omega) ?_;intro vA wA ao M cb _;obtain⟨di,dj,rfl,_,_⟩:=Own.form ao;have G:=a3.RS M;have dk:=Y.lt G;have cc:=Y.frozen G 5;have dl:wA.cell? ⟨B,5,none⟩=some (.slice ad L.length ae):=Y.cell G 5;have aP:=Z (Gz.U8 a3 ao M cb);have cd:=Z (A8 aY bz);refine ca.out _ _ (Y.cell G 5) ?_;simp only[Act.put,BH,BF,BG];refine Ae fun cK ce=>?_
   refine AZ (.pointer (some ⟨B,5,none⟩)) wA (by rfl) (by go_simp) ?_;refine ce.out _ _ (Y.cell G 5) ?_;simp only[Act.put,BH,BF,BG];refine CN ?_;clear a3 ao M cb bx cI b9 b' G b8 ca ce cH cJ cK bz aY aU a1;go_wp2_with fail;go_meet;case rel=>exact⟨l,aX,_,cd.out.1,cd.out.2,aP.out⟩
  case rest=>
   obtain⟨l,aX,b5,aY,bz,bA⟩:=hcut;have aP:=Z bA;obtain⟨ad,ae,rfl,_,_⟩:=Own.form bA.DB;clear a1 aU bA;cases aX with
   |er x k=>
    have a4:=Z (show R=.bad x k by rw[←bZ.out,Ci,bv.out,show bg=.bad x k from aY];rfl);clear aY;obtain⟨bw,a,dm,h,cf⟩:=aP.out.st;obtain⟨an,aE,aW,c3,c4⟩:=h.cells;obtain⟨g,X,aZ,t,K,rfl,M,aa,aQ,aF,aG,aH⟩:=h.DY;have lb:=h.lb;have a5:=h.lt;have aR:(0:Int)≤(a:Int)∧(a:Int)<((T.length:Nat):Int):=(by omega);obtain⟨LT,aI⟩: ∃L,T.length=L:=⟨_,rfl⟩;rw[aI]at an aR M;have cL:(k !=0)=true:=JG cf;clear h cf aQ aI a5;obtain⟨J,z,ah⟩:=t;simp only[]at aF aG aH;go_upto_region 4 with(fail);have a6:Hid (∀I:World,wc.grownBy I none→(I.cell? ⟨rb,0,none⟩=some (.slice (some ⟨g,X,none⟩) LT aZ)∧I.cell? ⟨rb,1,none⟩=some (.int .i64 a)∧I.cell? ⟨g,X+a*3,none⟩=some (.int .i64 J)∧I.cell? ⟨g,X+a*3+1,none⟩=some (.string ⟨z.toArray⟩)∧I.cell? ⟨g,X+a*3+2,none⟩=some (.int .i64 ah))):=
     Z (fun I ap=>⟨AH ap lb an,AH ap lb aE,AH ap aa aF,AH ap aa aG,AH ap aa aH⟩)
    go_region_held3 (fun I=>I.cell? ⟨rb,0,none⟩=some (.slice (some ⟨g,X,none⟩) LT aZ)∧I.cell? ⟨rb,1,none⟩=some (.int .i64 a)∧I.cell? ⟨g,X+a*3,none⟩=some (.int .i64 J)∧I.cell? ⟨g,X+a*3+1,none⟩=some (.string ⟨z.toArray⟩)∧I.cell? ⟨g,X+a*3+2,none⟩=some (.int .i64 ah))
     (first|go_keep|exact a6.out _ (by repeat' (first|(with_reducible exact AB _ _)|(with_reducible refine Af ?_ ?_ _)|(with_reducible refine AI ?_ aa)|(with_reducible refine Ag ?_)|(with_reducible refine AF ?_ _)|omega|(simp;done))))
     (fail)
    have bh:=Ag (AF (AB wc none) (.cells #[.int .i64 J,.string ⟨z.toArray⟩,.int .i64 ah] 69));have cg:=Z (aP.out.grown bh);have bB:=AH bh lb c3;have bC:=DP lb bh.size;generalize (wc.alloc (.cells #[.int .i64 J,.string ⟨z.toArray⟩,.int .i64 ah] 69)).drew=dn at cg bB bC⊢;clear a6 bh an aE aW c3 c4 aF aG aH aa lb aR M;go_wp2_with fail;go_meet;exact⟨S,D,L++l,_,_,_,_,by have:=b3.out;rw[BE];omega,.inr ⟨x,k,rfl,a4.out⟩,cg.out⟩
   |ok dp cM=>
    obtain⟨rfl,cN,aN⟩:=aY;have bi:=Dg cG.out.1 (bv.out.trans aN);have cO:cN=[]:=bi.2.1;subst cO;have cP:=bi.2.2;have cQ:=Z (bv.out.trans aN);obtain⟨t,K,rfl⟩:=bi.1.ne;have aS:=Z (show S.length+D.length+(L++l).length+(t::K).length≤ts.length∧(t::K).length≤O.length∧O.length<ag+1∧O.length≤gk by have:=b3.out;rw[BE];omega);have ch:=Z (aP.out.st.Aj.2.2.1 t (List.mem_cons_self ..)).1;have a4:=Z (show R=((if t.k≠1 then .ok (Cl S D (L++l)) (t::K) []else if 0<D.length then Ci ag (Cl S (D++[t.t]) (L++l)) K []else if Fj t.t=true then Ci ag (Cl (S++[t.t]) D (L++l)) K []else if(t.t !=FZ&&DW t.t)=true then .ok (Cl S D (L++l)) (t::K) []else Ci ag (Cl S (D++[t.t]) (L++l)) K []:PR V)).bind Ee by rw[←bZ.out,Ci,cQ.out,PR.Bj];rfl);clear bi cP aN;obtain⟨bw,a,f,h,aA,aO⟩:=aP.out.st;obtain⟨an,aE,aW,c3,c4⟩:=h.cells;obtain⟨g,X,aZ,cR,cS,rfl,M,aa,aQ,aF,aG,aH⟩:=h.DY;have lb:=h.lb;have a5:=h.lt;have aR:(0:Int)≤(a:Int)∧(a:Int)<((T.length:Nat):Int):=(by omega);have bj:=h.tg.len;obtain⟨LT,aI⟩: ∃LT,T.length=LT:=⟨_,rfl⟩;have ci:(a:Int)≤500:=(by omega);have cj:=Z h;have bD:=Z (A8 aA aO);have bE:=aA.symm.trans aQ;injection bE with bF bG;subst bF bG;rw[aI]at an aR M bj;have ck:=Y.frozen h.BD 1;clear h aA aO aQ aI a5;obtain⟨J,z,ah⟩:=t;simp only[]at aF aG aH ch;go_upto_region 4 with(fail);have a6:Hid (∀I:World,wc.grownBy I none→(I.cell? ⟨rb,0,none⟩=some (.slice (some ⟨g,X,none⟩) LT aZ)∧I.cell? ⟨rb,1,none⟩=some (.int .i64 a)∧I.cell? ⟨g,X+a*3,none⟩=some (.int .i64 J)∧I.cell? ⟨g,X+a*3+1,none⟩=some (.string ⟨z.toArray⟩)∧I.cell? ⟨g,X+a*3+2,none⟩=some (.int .i64 ah))):=
     Z (fun I ap=>⟨AH ap lb an,AH ap lb aE,AH ap aa aF,AH ap aa aG,AH ap aa aH⟩)
    go_region_held3 (fun I=>I.cell? ⟨rb,0,none⟩=some (.slice (some ⟨g,X,none⟩) LT aZ)∧I.cell? ⟨rb,1,none⟩=some (.int .i64 a)∧I.cell? ⟨g,X+a*3,none⟩=some (.int .i64 J)∧I.cell? ⟨g,X+a*3+1,none⟩=some (.string ⟨z.toArray⟩)∧I.cell? ⟨g,X+a*3+2,none⟩=some (.int .i64 ah))
     (first|go_keep|exact a6.out _ (by repeat' (first|(with_reducible exact AB _ _)|(with_reducible refine Af ?_ ?_ _)|(with_reducible refine AI ?_ aa)|(with_reducible refine Ag ?_)|(with_reducible refine AF ?_ _)|omega|(simp;done))))
     (fail)
    have bk:=Ag (AF (AB wc none) (.cells #[.int .i64 J,.string ⟨z.toArray⟩,.int .i64 ah] 69));have a7:=Z (show Y (wc.alloc (.cells #[.int .i64 J,.string ⟨z.toArray⟩,.int .i64 ah] 69)).drew wc.heap.size 69 #[.int .i64 J,.string ⟨z.toArray⟩,.int .i64 ah]from Y.new wc 69 _);have bl:=Z (aP.out.grown bk);have bB:=AH bk lb c3;have bC:=DP lb bk.size;generalize (wc.alloc (.cells #[.int .i64 J,.string ⟨z.toArray⟩,.int .i64 ah] 69)).drew=a8,wc.heap.size=a9 at a7 bl bB bC⊢;clear a6 bk;clear an aE aW c3 c4 aF aG aH aa lb aR bj ci M ck;have aV:a8.cell? ⟨a9,0,none⟩=some (.int .i64 J):=Y.cell a7.out 0;have aD:a8.cell? ⟨a9,1,none⟩=some (.string ⟨z.toArray⟩):=Y.cell a7.out 1;have a':=Y.lt a7.out;have ba:a8.cell? ⟨B,4,none⟩=some (.slice ab D.length ac):=Y.cell bl.out.box 4;have bb:=Y.lt bl.out.box;obtain⟨aJ,af⟩: ∃aJ,((J !=1)||(decide (D.length=0)&&(z !=[105,110]&&DW z)))=aJ:=⟨_,rfl⟩;have cl:=Z af;go_upto_region 5 with(fail);go_cut [52] (fun cT ay=>cT=.bool aJ∧a8.grownBy ay none);case first=>
     by_cases a0:J=1
     ·subst a0;by_cases aB:D.length=0
      ·have bH:((D.length:Int)==0)=true:=(by rw[beq_iff_eq];omega);by_cases bm:z=[105,110]
       ·subst bm;have N:aJ=false:=(by rw[←af];simp);exact Z0h
       ·have cU:(z !=[105,110])=true:=JG bm;have bc:=Z (bM.out z a8);have N:aJ=DW z:=(by rw[←af,At aB,cU];simp);obtain⟨cV,bd⟩: ∃b,DW z=b:=⟨_,rfl⟩;rw[bd]at bc N;have ak:=Z N;clear af N bd;exact Z0i
      ·have bH:((D.length:Int)==0)=false:=(by rw[beq_eq_false_iff_ne];omega);have N:aJ=false:=(by rw[←af,Aq aB];simp);exact Z0h
     ·have cL:((J:Int) !=1)=true:=(by rw[bne_iff_ne];omega);have N:aJ=true:=(by rw[←af,show(J !=1)=true from JG a0];rfl);exact Z0h
    case rest=>
     obtain⟨rfl,bJ⟩:=hcut;have bn:=Z (Y.grown a7.out bJ (by simp));have bo:=Z (bl.out.grown bJ);clear bJ af aV aD a' ba bb;have dq:D.length≤500:=(by have:=aS.out;omega);have dr:S.length≤500:=(by have:=aS.out;omega);cases aJ with
     |true=>
      have cX:=Z (show R=Ee (Cl S D (L++l)) (⟨J,z,ah⟩::K) [] by
       have h:=cl.out;rw[Bool.or_eq_true,Bool.and_eq_true,Bool.and_eq_true]at h;by_cases a0:J=1
       ·rcases h with h|⟨bt,am,cm⟩
        ·exact Ai a0 (bne_iff_ne.1 h)
        ·have ds:=of_decide_eq_true bt;rw[a4.out,U (fun e=>e a0),U (by omega),U (by rw[Sl cm];decide),Ah (by rw[Bool.and_eq_true];exact⟨am,cm⟩)];rfl
       ·rw[a4.out,Ah a0];rfl)
      go_wp2_with fail;go_meet;exact⟨S,D,L++l,_,_,_,_,by have:=aS.out;omega,.inl ⟨_,rfl,cX.out⟩,bo.out⟩
     |false=>
      have af:=cl.out;rw[Bool.or_eq_false_iff]at af;have cn:=Z (show J=1 by have h:=af.1;simpa using h);obtain⟨au,aw⟩: ∃au,(decide (D.length=0)&&Fj z)=au:=⟨_,rfl⟩;have dt:=Z aw;have bf:=Z (show(if au=true then(Ci ag (Cl (S++[z]) D (L++l)) K []).bind Ee else(Ci ag (Cl S (D++[z]) (L++l)) K []).bind Ee)=R by
       have bp:R=((if 0<D.length then Ci ag (Cl S (D++[z]) (L++l)) K []else if Fj z=true then Ci ag (Cl (S++[z]) D (L++l)) K []else if(z !=FZ&&DW z)=true then .ok (Cl S D (L++l)) (⟨J,z,ah⟩::K) []else Ci ag (Cl S (D++[z]) (L++l)) K []:PR V)).bind Ee:=a4.out.trans (by rw[U (fun e=>e cn.out)]);have am:=af.2;by_cases aB:D.length=0
       ·rw[At aB,Bool.true_and]at am;rw[U (by omega)]at bp;rw[At aB,Bool.true_and]at aw;subst aw;rw[bp];by_cases hs:Fj z=true
        ·rw[Ah hs,Ah hs]
        ·rw[U hs,U hs,U (by rw[show(z !=FZ&&DW z)=false from am];decide)]
       ·rw[Ah (by omega)]at bp;rw[Aq aB,Bool.false_and]at aw;subst aw;rw[bp];rfl)
      clear af;have aV:wc.cell? ⟨a9,0,none⟩=some (.int .i64 J):=Y.cell bn.out 0;have aD:wc.cell? ⟨a9,1,none⟩=some (.string ⟨z.toArray⟩):=Y.cell bn.out 1;have a':=Y.lt bn.out;have ba:wc.cell? ⟨B,4,none⟩=some (.slice ab D.length ac):=Y.cell bo.out.box 4;have bb:=Y.lt bo.out.box;obtain⟨co,cY⟩: ∃x,x=wc:=⟨_,rfl⟩;subst cY;go_upto_region 6 with(fail);go_cut [61] (fun cZ ay=>cZ=.bool au∧co.grownBy ay none);case first=>
       by_cases aB:D.length=0
       ·have bH:((D.length:Int)==0)=true:=(by rw[beq_iff_eq];omega);have N:au=Fj z:=(by rw[←aw,At aB];simp);have bc:=Z (bN.out z co (by have:=ch.out;omega));obtain⟨cV,bd⟩: ∃b,Fj z=b:=⟨_,rfl⟩;rw[bd]at bc N;have ak:=Z N;clear aw N bd;exact Z0i
       ·have bH:((D.length:Int)==0)=false:=(by rw[beq_eq_false_iff_ne];omega);have N:au=false:=(by rw[←aw,Aq aB];simp);have ak:=Z N;clear aw N;go_wp2_with fail;go_meet;exact⟨by rw[ak.out],AB _ _⟩
      case rest=>
       obtain⟨rfl,bK⟩:=hcut;have cp:=Z (Y.grown bn.out bK (by simp));have aC:=Z (bo.out.grown bK);clear bK aw aV aD a' ba bb;have aD:wc.cell? ⟨a9,1,none⟩=some (.string ⟨z.toArray⟩):=Y.cell cp.out 1;have a':=Y.lt cp.out;have c0:wc.cell? ⟨B,3,none⟩=some (.slice ai S.length aj):=Y.cell aC.out.box 3;have ba:wc.cell? ⟨B,4,none⟩=some (.slice ab D.length ac):=Y.cell aC.out.box 4;have bb:=Y.lt aC.out.box;go_upto_if 61 with(fail);go_cut [] (fun ay=> ∃(aT D2:List (List UInt8)) (cq cr:Value),(if au=true then aT=S++[z]∧D2=D else aT=S∧D2=D++[z])∧Gz w ay rb T (.ok (⟨J,z,ah⟩::K) cM) B aT D2 (L++l) cq cr (.slice ad (L++l).length ae));case first=>
        cases au with
        |true=>
         go_wp2_with (at_builtin;go_loud (refine AU 9 (.string ⟨#[]⟩) 1 16 Tryz.underlying27 Du rfl (.slice ai S.length aj) S.length (S.map sv) 0 _ 1 [sv z] rfl rfl (Own.alloc aC.out.AY _) (by omega) (Jd _ _ z rfl) (by unfold maxLen;omega) (by omega) ?_);intro vA wA ao M be _;(have G:=aC.out.RJ _ M);(have cc:=Y.frozen G 3);(have aU:=Y.lt G);(have c1:wA.cell? ⟨B,3,none⟩=some (.slice ai S.length aj):=Y.cell G 3);(have bL:=Z (Gz.U9 aC.out _ ao M be));(obtain⟨c2,c5,rfl,_,_⟩:=Own.form ao);clear ao M be G);go_meet;exact⟨S++[z],D,_,_,⟨rfl,rfl⟩,bL.out⟩
        |false=>
         go_wp2_with (at_builtin;go_loud (refine AU 9 (.string ⟨#[]⟩) 1 16 Tryz.underlying27 Du rfl (.slice ab D.length ac) D.length (D.map sv) 0 _ 1 [sv z] rfl rfl (Own.alloc aC.out.words _) (by omega) (Jd _ _ z rfl) (by unfold maxLen;omega) (by omega) ?_);intro vA wA ao M be _;(have G:=aC.out.OM _ M);(have cc:=Y.frozen G 4);(have aU:=Y.lt G);(have c1:wA.cell? ⟨B,4,none⟩=some (.slice ab D.length ac):=Y.cell G 4);(have bL:=Z (Gz.RF aC.out _ ao M be));(obtain⟨c2,c5,rfl,_,_⟩:=Own.form ao);clear ao M be G);go_meet;exact⟨S,D++[z],_,_,⟨rfl,rfl⟩,bL.out⟩
       case rest=>
        obtain⟨aT,D2,cq,cr,al,cs⟩:=hcut;have ct:=Z cs;have c6:=Z (show(Ci ag (Cl aT D2 (L++l)) K []).bind Ee=R by
         rw[←bf.out];cases au with
         |true=>rw[Ah rfl]at al;rw[Ah rfl,al.1,al.2]
         |false=>rw[U (by decide)]at al;rw[U (by decide),al.1,al.2])
        have c7:=Z (show aT.length+D2.length=S.length+D.length+1 by
         cases au with
         |true=>rw[Ah rfl]at al;rw[al.1,al.2,BE,Cd];omega
         |false=>rw[U (by decide)]at al;rw[al.1,al.2,BE,Cd];omega)
        clear al cs aD a' c0 ba bb;obtain⟨bw,a,f,h,aA,aO⟩:=ct.out.st;obtain⟨an,aE,aW,c3,c4⟩:=h.cells;obtain⟨g,X,aZ,cR,cS,rfl,M,aa,aQ,aF,aG,aH⟩:=h.DY;have lb:=h.lb;have a5:=h.lt;have aR:(0:Int)≤(a:Int)∧(a:Int)<((T.length:Nat):Int):=(by omega);have bj:=h.tg.len;obtain⟨LT,aI⟩: ∃LT,T.length=LT:=⟨_,rfl⟩;have ci:(a:Int)≤500:=(by omega);have cj:=Z h;have bD:=Z (A8 aA aO);have bE:=aA.symm.trans aQ;injection bE with bF bG;subst bF bG;rw[aI]at an aR M bj;have ck:=Y.frozen h.BD 1;clear h aA aO aQ aI a5;have cu:=BS.next cj.out bD.out.1 bD.out.2 rfl (show J≠4 by rw[cn.out];decide);have c8:=Z (ct.out.step (AM (AB wc (some rb)) (p:=⟨rb,1,none⟩) (.inl rfl) (.int .i64 ((a:Int)+1))) cu);clear cu;go_wp2_with fail;go_roundg (gk-1);case rel=>exact⟨ag,aT,D2,_,K,_,_,_,c6.out,by have:=aS.out;simp only[BP]at this;omega,by have:=aS.out;simp only[BP]at this;omega,by have:=aS.out;have:=c7.out;simp only[BP,BE]at*;omega,c8.out⟩
        case measure=>have:=aS.out;simp only[BP]at this;omega
end Go.Proofs.YtdhfhphbkfgamaaGreat
