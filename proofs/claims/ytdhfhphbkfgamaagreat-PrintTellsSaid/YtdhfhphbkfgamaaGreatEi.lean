/- A part. -/
import Derived.Test.YtdhfhphbkfgamaaGreatEg
import Derived.Test.YtdhfhphbkfgamaaGreatPm
set_option maxRecDepth 100000
set_option linter.all false
set_option maxHeartbeats 0
namespace Go.Proofs.YtdhfhphbkfgamaaGreat
open Go.RowKit Lx Proofs.Tryz
def GU(h:World->List V->Value->Prop)(bad:World->Value->Prop)(rb:Nat)(T:List AY)(d:Nat)(w:World):PR Int->Ending->World->Prop
 | .ok _ ts ns,e,w'=> ∃v,e=.returned v/\h w' ns v/\BU w' rb T (.ok ts d)/\w.grownBy w' (some rb)
 | .bad a k,e,w'=> ∃v,e=.returned v/\bad w' v/\BU w' rb T (.er a k)/\w.grownBy w' (some rb)
def F2(w0:World):World->List V->Value->Prop:=fun w' ns v=>Ct (low w0) w' v ns/\KB ns/\ns.length<=50000/\ ∀g,v.ownBlock=some g->w0.heap.size<=g
def TG:World->Value->Prop:=fun _ v=> ∃a n c,v=.slice a n c
structure IU(w W:World)(rb:Nat)(T:List AY)(st:DS)(B:Nat)(S D:List (List UInt8))(L:List Rd)(a b r:Value):Prop where
 st:BU W rb T st
 box:Y W B 32 #[.int .i64 1,.string ⟨#[]⟩,.bool false,a,b,r,.slice none 0 0,.slice none 0 0]
 hB:w.heap.size<=B
 AZ:Dd W a S
 words:Dd W b D
 DJ:Ji W r L
 na:∀k,a.ownBlock=some k->w.heap.size<=k
 nb:∀k,b.ownBlock=some k->w.heap.size<=k
 nr:∀k,r.ownBlock=some k->w.heap.size<=k
 ab:∀k,a.ownBlock=some k->b.ownBlock=some k->False
 gr:w.grownBy W (some rb)
 E8:rb<w.heap.size
section
variable {w W W' wA:World}{rb B:Nat}{T:List AY}{st st':DS}{S D:List (List UInt8)}{L:List Rd}{a b r vA:Value}
theorem IU.step(h:IU w W rb T st B S D L a b r)(z:W.grownBy W' (some rb))(G:BU W' rb T st'):IU w W' rb T st' B S D L a b r:=by
 have F:=h.st.AO;exact⟨G,Y.grown h.box z (fun e=>by injection e with e;have:=h.hB;have:=h.E8;omega),h.hB,Dl z F h.AZ (by decide),Dl z F h.words (by decide),Dl z F h.DJ (by decide),h.na,h.nb,h.nr,h.ab,AJ h.gr z,h.E8⟩
theorem IU.grown(h:IU w W rb T st B S D L a b r)(z:W.grownBy W' none):IU w W' rb T st B S D L a b r:=h.step (Bt z) (h.st.grown z)
theorem IU.Rt(h:IU w W rb T st B S D L a b r)(o:Obj)(z:Az (fun k=>a.ownBlock=some k) (W.alloc o) wA):Y wA B 32 #[.int .i64 1,.string ⟨#[]⟩,.bool false,a,b,r,.slice none 0 0,.slice none 0 0]:=
 Y.Bo (h.box.alloc o) z (fun e=>Aj ((Own.AO h.AZ e).uniq h.box.AO) (by decide))
theorem IU.Vp(h:IU w W rb T st B S D L a b r)(o:Obj){x:List UInt8}(G:Own wA 9 1 vA (S.length+1) (S.map sv++[sv x]) 0)(I:Az (fun k=>a.ownBlock=some k) (W.alloc o) wA)(J:∀k,vA.ownBlock=some k->a.ownBlock=some k\/(W.alloc o).heap.size<=k):
  IU w (wA.setCell ⟨B,3,none⟩ vA) rb T st B (S++[x]) D L vA b r:=by
 have K:=h.Rt o I;have X:∀k,a.ownBlock=some k->Bn (W.alloc o) k 9:=fun k e=>Own.AO (Own.alloc h.AZ o) e
 have M:Bn (W.alloc o) B 32:=(h.box.alloc o).AO;have F:Az (fun k=>a.ownBlock=some k\/k=B) (W.alloc o) (wA.setCell ⟨B,3,none⟩ vA):=Az.setCell (Az.mono I fun k _ e=> .inl e) (p:=⟨B,3,none⟩) (.inl (.inr rfl)) vA;have N:∀k,(a.ownBlock=some k\/k=B)->w.heap.size<=k:=fun k e=>by
  rcases e with e|rfl
  ·exact h.na k e
  ·exact h.hB
 have aa:BU (wA.setCell ⟨B,3,none⟩ vA) rb T st:=(h.st.grown (AF (AB W none) o)).Bo F fun k e=>by have:=N k e;have:=h.E8;omega
 have ac:w.grownBy (wA.setCell ⟨B,3,none⟩ vA) (some rb):=F7 h.gr o F N;have ad:Own (wA.setCell ⟨B,3,none⟩ vA) 9 1 b D.length (D.map sv) 0:=(Own.alloc h.words o).Bo F (fun g z e=>by
  rcases e with e|rfl
  ·exact h.ab g (by first|exact z|exact e) (by first|exact e|exact z)
  ·exact Aj ((Own.AO (Own.alloc h.words o) z).uniq M) (by decide))
 have ae:Own (wA.setCell ⟨B,3,none⟩ vA) 9 1 vA (S++[x]).length ((S++[x]).map sv) 0:=by
  rw[BG,Cj,FN];exact G.Bi (p:=⟨B,3,none⟩) (fun e=>Aj ((Own.AO G e).uniq K.AO) (by decide)) _
 have af:Ji (wA.setCell ⟨B,3,none⟩ vA) r L:=(Own.alloc h.DJ o).Bo F (fun g z e=>by
  rcases e with e|rfl
  ·exact Aj ((Own.AO (Own.alloc h.DJ o) z).uniq (X g e)) (by decide)
  ·exact Aj ((Own.AO (Own.alloc h.DJ o) z).uniq M) (by decide))
 refine⟨aa,Y.AW K 3 _,h.hB,ae,ad,af,?_,?_,h.nr,?_,ac,h.E8⟩
 ·exact fun k hk=>by
    rcases J k hk with e|e
    ·exact h.na k e
    ·rw[BW]at e;have:=h.gr.size;omega
 ·exact h.nb
 ·exact fun k hk O=>by
    rcases J k hk with e|e
    ·exact h.ab k e O
    ·have:=Own.lt h.words O;rw[BW]at e;omega
theorem IU.O5(h:IU w W rb T st B S D L a b r)(o:Obj)(z:Az (fun k=>b.ownBlock=some k) (W.alloc o) wA):Y wA B 32 #[.int .i64 1,.string ⟨#[]⟩,.bool false,a,b,r,.slice none 0 0,.slice none 0 0]:=
 Y.Bo (h.box.alloc o) z (fun e=>Aj ((Own.AO h.words e).uniq h.box.AO) (by decide))
theorem IU.Sz(h:IU w W rb T st B S D L a b r)(o:Obj){x:List UInt8}(G:Own wA 9 1 vA (D.length+1) (D.map sv++[sv x]) 0)(I:Az (fun k=>b.ownBlock=some k) (W.alloc o) wA)(J:∀k,vA.ownBlock=some k->b.ownBlock=some k\/(W.alloc o).heap.size<=k):
  IU w (wA.setCell ⟨B,4,none⟩ vA) rb T st B S (D++[x]) L a vA r:=by
 have K:=h.O5 o I;have O:∀k,b.ownBlock=some k->Bn (W.alloc o) k 9:=fun k e=>Own.AO (Own.alloc h.words o) e
 have M:Bn (W.alloc o) B 32:=(h.box.alloc o).AO;have F:Az (fun k=>b.ownBlock=some k\/k=B) (W.alloc o) (wA.setCell ⟨B,4,none⟩ vA):=Az.setCell (Az.mono I fun k _ e=> .inl e) (p:=⟨B,4,none⟩) (.inl (.inr rfl)) vA;have N:∀k,(b.ownBlock=some k\/k=B)->w.heap.size<=k:=fun k e=>by
  rcases e with e|rfl
  ·exact h.nb k e
  ·exact h.hB
 have X:BU (wA.setCell ⟨B,4,none⟩ vA) rb T st:=(h.st.grown (AF (AB W none) o)).Bo F fun k e=>by have:=N k e;have:=h.E8;omega
 have aa:w.grownBy (wA.setCell ⟨B,4,none⟩ vA) (some rb):=F7 h.gr o F N;have ac:Own (wA.setCell ⟨B,4,none⟩ vA) 9 1 a S.length (S.map sv) 0:=(Own.alloc h.AZ o).Bo F (fun g z e=>by
  rcases e with e|rfl
  ·exact h.ab g (by first|exact z|exact e) (by first|exact e|exact z)
  ·exact Aj ((Own.AO (Own.alloc h.AZ o) z).uniq M) (by decide))
 have ad:Own (wA.setCell ⟨B,4,none⟩ vA) 9 1 vA (D++[x]).length ((D++[x]).map sv) 0:=by
  rw[BG,Cj,FN];exact G.Bi (p:=⟨B,4,none⟩) (fun e=>Aj ((Own.AO G e).uniq K.AO) (by decide)) _
 have ae:Ji (wA.setCell ⟨B,4,none⟩ vA) r L:=(Own.alloc h.DJ o).Bo F (fun g z e=>by
  rcases e with e|rfl
  ·exact Aj ((Own.AO (Own.alloc h.DJ o) z).uniq (O g e)) (by decide)
  ·exact Aj ((Own.AO (Own.alloc h.DJ o) z).uniq M) (by decide))
 refine⟨X,Y.AW K 4 _,h.hB,ac,ad,ae,?_,?_,h.nr,?_,aa,h.E8⟩
 ·exact h.na
 ·exact fun k hk=>by
    rcases J k hk with e|e
    ·exact h.nb k e
    ·rw[BW]at e;have:=h.gr.size;omega
 ·exact fun k hk af=>by
    rcases J k af with e|e
    ·exact h.ab k hk e
    ·have:=Own.lt h.AZ hk;rw[BW]at e;omega
theorem IU.R9(h:IU w W rb T st B S D L a b r)(z:Az (fun k=>r.ownBlock=some k) W wA):Y wA B 32 #[.int .i64 1,.string ⟨#[]⟩,.bool false,a,b,r,.slice none 0 0,.slice none 0 0]:=
 Y.Bo h.box z (fun e=>Aj ((Own.AO h.DJ e).uniq h.box.AO) (by decide))
theorem IU.Vv(h:IU w W rb T st B S D L a b r){l:List Rd}(G:Own wA 34 3 vA (L.length+l.length) (L.flatMap Rd.cells++l.flatMap Rd.cells) 0)(I:Az (fun k=>r.ownBlock=some k) W wA)(O:∀k,vA.ownBlock=some k->r.ownBlock=some k\/W.heap.size<=k):
  IU w (wA.setCell ⟨B,5,none⟩ vA) rb T st B S D (L++l) a b vA:=by
 have J:=h.R9 I;have K:∀k,r.ownBlock=some k->Bn W k 34:=fun k e=>Own.AO h.DJ e
 have M:Bn W B 32:=h.box.AO;have z:Az (fun k=>r.ownBlock=some k\/k=B) W (wA.setCell ⟨B,5,none⟩ vA):=Az.setCell (Az.mono I fun k _ e=> .inl e) (p:=⟨B,5,none⟩) (.inl (.inr rfl)) vA;have N:∀k,(r.ownBlock=some k\/k=B)->w.heap.size<=k:=fun k e=>by
  rcases e with e|rfl
  ·exact h.nr k e
  ·exact h.hB
 have X:Ji (wA.setCell ⟨B,5,none⟩ vA) vA (L++l):=by
  unfold Ji;rw[BG,List.flatMap_append];exact G.Bi (p:=⟨B,5,none⟩) (fun e=>Aj ((Own.AO G e).uniq J.AO) (by decide)) _
 refine⟨h.st.Bo z (fun k e=>by have:=N k e;have:=h.E8;omega),Y.AW J 5 _,h.hB,Own.Bo h.AZ z (fun g F e=>?_),Own.Bo h.words z (fun g F e=>?_),X,h.na,h.nb,fun k hk=>?_,h.ab,?_,h.E8⟩
 ·rcases e with e|rfl
  ·exact Aj ((Own.AO h.AZ F).uniq (K g e)) (by decide)
  ·exact Aj ((Own.AO h.AZ F).uniq M) (by decide)
 ·rcases e with e|rfl
  ·exact Aj ((Own.AO h.words F).uniq (K g e)) (by decide)
  ·exact Aj ((Own.AO h.words F).uniq M) (by decide)
 ·rcases O k hk with e|e
  ·exact h.nr k e
  ·have:=h.gr.size;omega
 ·exact⟨z.os.trans h.gr.os,z.tape.trans h.gr.tape,z.output.trans h.gr.output,E0 h.gr.size z.size,fun k hk aa=>(z.block k (DZ hk h.gr.size) (fun e=>by have:=N k e;omega)).trans (h.gr.block k hk aa)⟩
theorem IU.start{ts:List AY}{d:Nat}(h:BU w rb T (.ok ts d)):IU w (w.alloc (.cells #[.int .i64 1,.string ⟨#[]⟩,.bool false,.slice none 0 0,.slice none 0 0,.slice none 0 0,.slice none 0 0,.slice none 0 0] 32)) rb T (.ok ts d) w.heap.size [] [] [] (.slice none 0 0) (.slice none 0 0) (.slice none 0 0):=
 ⟨h.grown (AF (AB w none) _),Y.new w 32 _,BN _,Own.nil _ _ _ _,Own.nil _ _ _ _,Own.nil _ _ _ _,fun k hk=>(by cases hk),fun k hk=>(by cases hk),fun k hk=>(by cases hk),fun k hk=>(by cases hk),AF (AB w _) _,h.lb⟩
theorem IU.node(h:IU w W rb T st B S D L a b r):Bk (low w) W a b r (.slice none 0 0) (.slice none 0 0) { kind:=1,AZ:=S,words:=D,AK:=L } :=
 ⟨h.AZ,h.words,h.DJ,⟨[],Own.nil _ _ _ _,fun b z=>(by cases z),fun i F=>Aj F (by simp)⟩,Own.nil _ _ _ _,fun k hk e=>Aj e (Nat.not_lt.2 (h.na k hk)),fun k hk e=>Aj e (Nat.not_lt.2 (h.nb k hk)),fun k hk e=>Aj e (Nat.not_lt.2 (h.nr k hk)),fun k hk e=>(by cases hk)⟩
end
def YU(h:PR (List Rd))(d:Nat)(l:List Rd):DS->Prop
 | .ok ts d2=>d2=d/\ ∃ns,h=.ok l ts ns
 | .er a k=>h=.bad a k
theorem LM{w w':World}{rb d:Nat}{T:List AY}{h:PR (List Rd)}{e:Ending}(J:M8 (TZ w) (XA w) rb T d w h e w'):∃v l st,e=.returned v/\TZ w w' l v/\BU w' rb T st/\w.grownBy w' (some rb)/\YU h d l st:=by
 cases h with
 |ok x ts ns=>
  obtain⟨v,z,F,G,I⟩:=J;exact⟨v,x,_,z,F,G,I,rfl,ns,rfl⟩
 |bad a k=>
  obtain⟨v,z,⟨l,F⟩,G,I⟩:=J;exact⟨v,l,_,z,F,G,I,rfl⟩
theorem Qc:∀s∈Lh,GC s=false:=by decide
theorem Um{s:List UInt8}(h:Df s=true):GC s=false:=Qc s (by unfold Df at h;simpa using h)
theorem node1{av:Nat->Prop}{w:World}{a b r:Value}{n:V}(h:Bk av w a b r (.slice none 0 0) (.slice none 0 0) n):Ct av (w.alloc (.cells (AU n a b r (.slice none 0 0) (.slice none 0 0)).toArray 32)) (.slice (some ⟨w.heap.size,0,none⟩) 1 1) [n]:=by
 refine⟨AU n a b r (.slice none 0 0) (.slice none 0 0),⟨rfl,.inr ⟨w.heap.size,0,1,_,(0,0),rfl,Y.new w 32 _,BN _,BN _,by unfold maxLen;omega,by show 0+1*8<=8;omega,fun j G=>by rw[Dc];simp⟩⟩,fun i z=>?_⟩;have F:i=0:=(by simpa using z);subst F;exact⟨a,b,r,_,_,rfl,h.fr (base:=fun _=>False) (Fr.AL (AF (AB w none) _))⟩
theorem Na(rb:Nat)(T ts:List AY)(d:Nat)(w:World)(h:BU w rb T (.ok ts d)):
  Calls prog 119 #[.pointer (some ⟨rb,0,none⟩)] w (GU (F2 w) TG rb T d w (Iz ts [])):=by
 have cr:=Z (fun W st (bm:BU W rb T st)=>EX rb T st W bm);have cs:=Z (fun W ts (bm:BU W rb T (.ok ts d))=>KH rb T ts d W bm);have bI:=Z (fun s W=>I4 s W);have bJ:=Z (fun s W h=>TD s W h);unfold Qb sv at bI bJ;have ct:=Z h.Ak;have bn:=Z (IU.start h);show Calls prog 119 #[.pointer (some ⟨rb,0,none⟩)] w (GU (F2 w) TG rb T d w ((Co (ts.length+1) { kind:=1 } ts []).bind Ew));obtain⟨R,aw⟩:=U ((Co (ts.length+1) { kind:=1 } ts []).bind Ew);have cu:=Z (show(Co (ts.length+1) (Cq [] [] []) ts []).bind Ew=R from aw);rw[aw];obtain⟨B,bK⟩:=U w.heap.size;rw[bK]at bn;clear aw h;go_enter func119,ntmps119;go_upto_block 0 with(fail);obtain⟨c1,bL⟩:=U (w.alloc (.cells #[.int .i64 1,.string ⟨#[]⟩,.bool false,.slice none 0 0,.slice none 0 0,.slice none 0 0,.slice none 0 0,.slice none 0 0] 32));rw[bL]at bn⊢;clear bL bK;go_cut [4] (fun cv ax=> ∃(S D:List (List UInt8)) (L:List Rd) (st:DS) (a b r:Value),S.length+D.length+L.length<=2000/\((∃O,st=.ok O d/\R=Ew (Cq S D L) O [])\/(∃x k,st=.er x k/\R=.bad x k))/\IU w ax rb T st B S D L a b r);case rest=>
  obtain⟨S,D,L,st,a,b,r,c2,aw,F⟩:=hcut;have bc:=Z aw;have aq:=Z F;obtain⟨ai,aj,rfl,_,_⟩:=Own.form F.AZ;obtain⟨ab,ac,rfl,_,_⟩:=Own.form F.words;obtain⟨ad,ae,rfl,_,_⟩:=Own.form F.DJ;have aQ:=Y.lt F.box;have aR:wc.cell? ⟨B,0,none⟩=some (.int .i64 1):=Y.cell F.box 0;have aC:wc.cell? ⟨B,1,none⟩=some (.string ⟨#[]⟩):=Y.cell F.box 1;have bM:wc.cell? ⟨B,2,none⟩=some (.bool false):=Y.cell F.box 2;have cw:wc.cell? ⟨B,3,none⟩=some (.slice ai S.length aj):=Y.cell F.box 3;have cx:wc.cell? ⟨B,4,none⟩=some (.slice ab D.length ac):=Y.cell F.box 4;have aY:wc.cell? ⟨B,5,none⟩=some (.slice ad L.length ae):=Y.cell F.box 5;have bN:wc.cell? ⟨B,6,none⟩=some (.slice none 0 0):=Y.cell F.box 6;have bO:wc.cell? ⟨B,7,none⟩=some (.slice none 0 0):=Y.cell F.box 7;obtain⟨q,bP⟩:=U (((S.length:Int)+(D.length:Int)+(L.length:Int)==0));have c5:S.length<=2000:=(by omega);have c6:D.length<=2000:=(by omega);have c7:L.length<=2000:=(by omega);have bQ:=Z (cr.out wc st aq.out.st);unfold Qu at bQ;have cy:=Z (fun(W:World) (F:IU w W rb T st B S D L (.slice ai S.length aj) (.slice ab D.length ac) (.slice ad L.length ae)) (aG:¬(S.length+D.length+L.length=0))=>(show∀v,v=Value.slice (some ⟨W.heap.size,0,none⟩) 1 1->GU (F2 w) TG rb T d w R (.returned v) (W.alloc (.cells #[.int .i64 1,.string ⟨#[]⟩,.bool false,.slice ai S.length aj,.slice ab D.length ac,.slice ad L.length ae,.slice none 0 0,.slice none 0 0] 32)) by
   intro v ay;subst ay;have aZ:=F.st.grown (AF (AB W none) (.cells #[.int .i64 1,.string ⟨#[]⟩,.bool false,.slice ai S.length aj,.slice ab D.length ac,.slice ad L.length ae,.slice none 0 0,.slice none 0 0] 32));rcases bc.out with⟨O,aH,aI⟩|⟨x,k,aH,aI⟩
   ·subst aH;rw[aI,show Ew (Cq S D L) O []=PR.ok 0 O [Cq S D L]from AP aG];exact⟨_,rfl,⟨node1 F.node,(by intro x hx;rw[DA]at hx;subst hx;exact⟨DD _,fun k hk=>by cases hk⟩),by simp,fun g aa=>by simp[Value.ownBlock]at aa;have:=F.gr.size;omega⟩,aZ,AF F.gr _⟩
   ·subst aH;rw[aI];exact⟨_,rfl,⟨_,_,_,rfl⟩,aZ,AF F.gr _⟩))
  clear aw F;cases q with
  |true=>
   have aG:S.length+D.length+L.length=0:=(by have:=eq_of_beq bP;omega);have bo:=Z (fun(W:World) (bp:BU W rb T (FC st)) (am:wc.grownBy W (some rb))=>(show∀v,v=Value.slice (some ⟨W.heap.size,0,none⟩) 1 1->GU (F2 w) TG rb T d w R (.returned v) (W.alloc (.cells #[.int .i64 1,.string ⟨#[]⟩,.bool false,.slice ai S.length aj,.slice ab D.length ac,.slice ad L.length ae,.slice none 0 0,.slice none 0 0] 32)) by
    intro v ay;subst ay;have aZ:=bp.grown (AF (AB W none) (.cells #[.int .i64 1,.string ⟨#[]⟩,.bool false,.slice ai S.length aj,.slice ab D.length ac,.slice ad L.length ae,.slice none 0 0,.slice none 0 0] 32));have bR:=AF (AJ aq.out.gr am) (.cells #[.int .i64 1,.string ⟨#[]⟩,.bool false,.slice ai S.length aj,.slice ab D.length ac,.slice ad L.length ae,.slice none 0 0,.slice none 0 0] 32);rcases bc.out with⟨O,aH,aI⟩|⟨x,k,aH,aI⟩
    ·subst aH;obtain⟨t,K,rfl⟩:=aq.out.st.Ak.1.ne;rw[aI,show Ew (Cq S D L) (t::K) []=PR.bad t.a (if t.k=4 then 23 else 17)from Ai aG];exact⟨_,rfl,⟨_,_,_,rfl⟩,aZ,bR⟩
    ·subst aH;rw[aI];exact⟨_,rfl,⟨_,_,_,rfl⟩,aZ,bR⟩))
   have cz:=Z (fun(W:World) (am:wc.grownBy W (some rb))=>Y.grown aq.out.box am (fun e=>by injection e with e;have:=aq.out.hB;have:=aq.out.E8;omega));clear aG aR aC bM bN bO;go_wp2_with fail;refine bQ.out.mono ?_;rintro e ar ⟨rfl,am,bq⟩;have bo:=Z (bo.out ar am bq);have G:=cz.out ar bq;have aQ:=Y.lt G;have aR:ar.cell? ⟨B,0,none⟩=some (.int .i64 1):=Y.cell G 0;have aC:ar.cell? ⟨B,1,none⟩=some (.string ⟨#[]⟩):=Y.cell G 1;have bM:ar.cell? ⟨B,2,none⟩=some (.bool false):=Y.cell G 2;have cw:ar.cell? ⟨B,3,none⟩=some (.slice ai S.length aj):=Y.cell G 3;have cx:ar.cell? ⟨B,4,none⟩=some (.slice ab D.length ac):=Y.cell G 4;have aY:ar.cell? ⟨B,5,none⟩=some (.slice ad L.length ae):=Y.cell G 5;have bN:ar.cell? ⟨B,6,none⟩=some (.slice none 0 0):=Y.cell G 6;have bO:ar.cell? ⟨B,7,none⟩=some (.slice none 0 0):=Y.cell G 7;clear G am bq;go_wp2_with fail;go_ret;exact bo.out _ rfl
  |false=>
   have aG:¬(S.length+D.length+L.length=0):=fun e=>beq_eq_false_iff_ne.1 bP (by omega)
   have cA:=Z (cy.out wc aq.out aG);clear aG;go_wp2_with fail;go_ret;exact cA.out _ rfl
 go_wp2_with fail;go_loopg [4] ts.length (fun g cv wr=> ∃(f:Nat) (S D:List (List UInt8)) (L:List Rd) (O:List AY) (a b r:Value),(Co f (Cq S D L) O []).bind Ew=R/\O.length<f/\O.length<=g/\S.length+D.length+L.length+O.length<=ts.length/\IU w wr rb T (.ok O d) B S D L a b r);case atStart=>exact⟨_,[],[],[],ts,_,_,_,cu.out,Nat.lt_succ_self _,BN _,by simp,bn.out⟩
 case round=>
  obtain⟨ag,S,D,L,O,a,b,r,aw,bS,aa,bT,F⟩:=hrel;have bU:=Z aw;have aq:=Z F;have c8:=ct.out.2.2.2.1;obtain⟨ai,aj,rfl,_,_⟩:=Own.form F.AZ;obtain⟨ab,ac,rfl,_,_⟩:=Own.form F.words;obtain⟨ad,ae,rfl,_,_⟩:=Own.form F.DJ;obtain⟨ag,rfl⟩:∃cB,ag=cB+1:=⟨ag-1,by omega⟩;have bV:=F.st.Ak;have aQ:=Y.lt F.box;have aY:wr.cell? ⟨B,5,none⟩=some (.slice ad L.length ae):=Y.cell F.box 5;have bW:=Z (aq.out.grown (Ah (AB wr none)));have bX:=Z (cs.out _ O bW.out.st);obtain⟨bY,aJ⟩:=U (Cb O []);rw[aJ]at bX;have br:=Z aJ;have bZ:=Z (BC bS (BC aa bT));have cC:=Z bV;have b0:=Z (show L.length<=500 by omega);clear aw F aJ bV bS aa bT;obtain⟨bs,a,c9,h,az,aK⟩:=aq.out.st;obtain⟨an,aD,aS,c3,c4⟩:=h.cells;have lb:=h.lb;clear h az aK;go_upto_region 3 with(fail);clear an aD aS c3 c4 lb;go_cut [] (fun ax=> ∃(l:List Rd) (aT:DS) (b1:Value),YU bY d l aT/\l.length<=1000/\IU w ax rb T aT B S D (L++l) (.slice ai S.length aj) (.slice ab D.length ac) b1);case first=>
   refine Db [0,1,2] [3,4,5,6] (by kernel_rfl) (by kernel_rfl) (fun W'=>W'.cell? ⟨B,5,none⟩=some (.slice ad L.length ae)) aY (by intro c a w d v h;cases d<;>exact h) ?_;simp only[pick,List.getElem?_cons_zero,List.getElem?_cons_succ];refine AR ?_ (by rfl) ?_ ?_;rotate_left
   ·(intro b2 b3;go_simp;try with_reducible rfl)
   simp only[Act.put,BH,BI,BJ];refine AR ?_ (by rfl) ?_ ?_;rotate_left
   ·(intro b2 b3;go_simp;try with_reducible rfl)
   simp only[Act.put,BH,BI,BJ];refine AR ?_ (by rfl) ?_ ?_;rotate_left
   ·(intro b2 b3;go_simp;try with_reducible rfl)
   simp only[Act.put,BH,BI,BJ];refine CV ?_;refine Ag fun cD b4=>?_
   refine Cw (by rfl) (by simp[execOp,resolve,invoke,go_sem]) bX.out (fun w' h=>by obtain⟨_,_,_,h,_⟩:=LM h;cases h) ?_ (fun c w' h=>by obtain⟨_,_,_,h,_⟩:=LM h;cases h);intro v c' ay;obtain⟨da,l,aT,ay,⟨bt,cE,bu⟩,b5,b6,aU⟩:=LM ay;injection ay with ay;subst ay;have a0:=IU.step bW.out b6 b5;obtain⟨db,dc,rfl,_,_⟩:=Own.form bt;refine b4.out _ _ (Y.cell a0.box 5) ?_;simp only[Act.put,BH,BI,BJ];refine Ag fun cF b7=>?_
   refine Aq (by rfl) (.tmp 12) (.tmp 14) 28 28 (by rfl) 34 (.agg #[.int .i64 0,.string ⟨#[]⟩,.string ⟨#[]⟩]) 3 40 underlying28 LL rfl (.slice ad L.length ae) L.length (L.flatMap Rd.cells) 0 _ l.length (l.flatMap Rd.cells) (by rfl) (by rfl) a0.DJ (by omega) (VE bt) (by have:=b0.out;unfold maxLen;omega) (by have:=b0.out;omega) ?_;intro vA wA ao M b8 _;obtain⟨dd,de,rfl,_,_⟩:=Own.form ao;have G:=a0.R9 M;have df:=Y.lt G;have b9:=Y.frozen G 5;have dg:wA.cell? ⟨B,5,none⟩=some (.slice ad L.length ae):=Y.cell G 5;have aL:=Z (IU.Vv a0 ao M b8);have b':=Z (BC aU bu);refine b7.out _ _ (Y.cell G 5) ?_;simp only[Act.put,BH,BI,BJ];refine Ag fun cG ca=>?_
   refine Aa (.pointer (some ⟨B,5,none⟩)) wA (by rfl) (by go_simp) ?_;refine ca.out _ _ (Y.cell G 5) ?_;simp only[Act.put,BH,BI,BJ];refine CR ?_;clear a0 ao M b8 bt cE b5 b6 G b4 b7 ca cD cF cG bu aU aQ aY;go_wp2_with fail;go_meet;case rel=>exact⟨l,aT,_,b'.out.1,b'.out.2,aL.out⟩
  case rest=>
   obtain⟨l,aT,b1,aU,bu,bv⟩:=hcut;have aL:=Z bv;obtain⟨ad,ae,rfl,_,_⟩:=Own.form bv.DJ;clear aY aQ bv;cases aT with
   |er x k=>
    have a1:=Z (show R=.bad x k by rw[<-bU.out,Co,br.out,show bY=.bad x k from aU];rfl);clear aU;obtain⟨bs,a,dh,h,cb⟩:=aL.out.st;obtain⟨an,aD,aS,c3,c4⟩:=h.cells;obtain⟨g,X,aV,t,K,rfl,M,aa,aM,t0,t1,t2⟩:=h.Dh;have lb:=h.lb;have a2:=h.lt;have aN:(0:Int)<=(a:Int)/\(a:Int)<((T.length:Nat):Int):=(by omega);obtain⟨LT,aE⟩:=U T.length;rw[aE]at an aN M;have cH:(k !=0)=true:=JY cb;clear h cb aM aE a2;obtain⟨J,z,ah⟩:=t;simp only[]at t0 t1 t2;go_upto_region 4 with(fail);have a3:Hid (∀I:World,wc.grownBy I none->(I.cell? ⟨rb,0,none⟩=some (.slice (some ⟨g,X,none⟩) LT aV)/\I.cell? ⟨rb,1,none⟩=some (.int .i64 a)/\I.cell? ⟨g,X+a*3,none⟩=some (.int .i64 J)/\I.cell? ⟨g,X+a*3+1,none⟩=some (.string ⟨z.toArray⟩)/\I.cell? ⟨g,X+a*3+2,none⟩=some (.int .i64 ah))):=
     Z (fun I ap=>⟨AH ap lb an,AH ap lb aD,AH ap aa t0,AH ap aa t1,AH ap aa t2⟩)
    go_region_held3 (fun I=>I.cell? ⟨rb,0,none⟩=some (.slice (some ⟨g,X,none⟩) LT aV)/\I.cell? ⟨rb,1,none⟩=some (.int .i64 a)/\I.cell? ⟨g,X+a*3,none⟩=some (.int .i64 J)/\I.cell? ⟨g,X+a*3+1,none⟩=some (.string ⟨z.toArray⟩)/\I.cell? ⟨g,X+a*3+2,none⟩=some (.int .i64 ah))
     (first|go_keep|exact a3.out _ (by repeat' (first|(with_reducible exact AB _ _)|(with_reducible refine Af ?_ ?_ _)|(with_reducible refine AI ?_ aa)|(with_reducible refine Ah ?_)|(with_reducible refine AF ?_ _)|omega|(simp;done))))
     (fail)
    have bd:=Ah (AF (AB wc none) (.cells #[.int .i64 J,.string ⟨z.toArray⟩,.int .i64 ah] 69));have cc:=Z (aL.out.grown bd);have bw:=AH bd lb c3;have bx:=DZ lb bd.size;generalize (wc.alloc (.cells #[.int .i64 J,.string ⟨z.toArray⟩,.int .i64 ah] 69)).drew=di at cc bw bx⊢;clear a3 bd an aD aS c3 c4 t0 t1 t2 aa lb aN M;go_wp2_with fail;go_meet;exact⟨S,D,L++l,_,_,_,_,by have:=bZ.out;rw[BG];omega,.inr ⟨x,k,rfl,a1.out⟩,cc.out⟩
   |ok dj d2=>
    obtain⟨rfl,cI,aJ⟩:=aU;have be:=Dz cC.out.1 (br.out.trans aJ);have cJ:cI=[]:=be.2.1;subst cJ;have cK:=be.2.2;have cL:=Z (br.out.trans aJ);obtain⟨t,K,rfl⟩:=be.1.ne;have aO:=Z (show S.length+D.length+(L++l).length+(t::K).length<=ts.length/\(t::K).length<=O.length/\O.length<ag+1/\O.length<=gk by have:=bZ.out;rw[BG];omega);have cd:=Z (aL.out.st.Ak.2.2.1 t (En ..)).1;have a1:=Z (show R=((if t.k≠1 then .ok (Cq S D (L++l)) (t::K) []else if 0<D.length then Co ag (Cq S (D++[t.t]) (L++l)) K []else if GC t.t=true then Co ag (Cq (S++[t.t]) D (L++l)) K []else if(t.t !=F1&&Df t.t)=true then .ok (Cq S D (L++l)) (t::K) []else Co ag (Cq S (D++[t.t]) (L++l)) K []:PR V)).bind Ew by rw[<-bU.out,Co,cL.out,PR.Bm];rfl);clear be cK aJ;obtain⟨bs,a,f,h,az,aK⟩:=aL.out.st;obtain⟨an,aD,aS,c3,c4⟩:=h.cells;obtain⟨g,X,aV,t9,cM,rfl,M,aa,aM,t0,t1,t2⟩:=h.Dh;have lb:=h.lb;have a2:=h.lt;have aN:(0:Int)<=(a:Int)/\(a:Int)<((T.length:Nat):Int):=(by omega);have bf:=h.tg.len;obtain⟨LT,aE⟩:=U T.length;have ce:(a:Int)<=500:=(by omega);have cf:=Z h;have bz:=Z (BC az aK);have bA:=az.symm.trans aM;injection bA with bB bC;subst bB bC;rw[aE]at an aN M bf;have cg:=Y.frozen h.BF 1;clear h az aK aM aE a2;obtain⟨J,z,ah⟩:=t;simp only[]at t0 t1 t2 cd;go_upto_region 4 with(fail);have a3:Hid (∀I:World,wc.grownBy I none->(I.cell? ⟨rb,0,none⟩=some (.slice (some ⟨g,X,none⟩) LT aV)/\I.cell? ⟨rb,1,none⟩=some (.int .i64 a)/\I.cell? ⟨g,X+a*3,none⟩=some (.int .i64 J)/\I.cell? ⟨g,X+a*3+1,none⟩=some (.string ⟨z.toArray⟩)/\I.cell? ⟨g,X+a*3+2,none⟩=some (.int .i64 ah))):=
     Z (fun I ap=>⟨AH ap lb an,AH ap lb aD,AH ap aa t0,AH ap aa t1,AH ap aa t2⟩)
    go_region_held3 (fun I=>I.cell? ⟨rb,0,none⟩=some (.slice (some ⟨g,X,none⟩) LT aV)/\I.cell? ⟨rb,1,none⟩=some (.int .i64 a)/\I.cell? ⟨g,X+a*3,none⟩=some (.int .i64 J)/\I.cell? ⟨g,X+a*3+1,none⟩=some (.string ⟨z.toArray⟩)/\I.cell? ⟨g,X+a*3+2,none⟩=some (.int .i64 ah))
     (first|go_keep|exact a3.out _ (by repeat' (first|(with_reducible exact AB _ _)|(with_reducible refine Af ?_ ?_ _)|(with_reducible refine AI ?_ aa)|(with_reducible refine Ah ?_)|(with_reducible refine AF ?_ _)|omega|(simp;done))))
     (fail)
    have bg:=Ah (AF (AB wc none) (.cells #[.int .i64 J,.string ⟨z.toArray⟩,.int .i64 ah] 69));have a4:=Z (show Y (wc.alloc (.cells #[.int .i64 J,.string ⟨z.toArray⟩,.int .i64 ah] 69)).drew wc.heap.size 69 #[.int .i64 J,.string ⟨z.toArray⟩,.int .i64 ah]from Y.new wc 69 _);have bh:=Z (aL.out.grown bg);have bw:=AH bg lb c3;have bx:=DZ lb bg.size;generalize (wc.alloc (.cells #[.int .i64 J,.string ⟨z.toArray⟩,.int .i64 ah] 69)).drew=a5,wc.heap.size=a6 at a4 bh bw bx⊢;clear a3 bg;clear an aD aS c3 c4 t0 t1 t2 aa lb aN bf ce M cg;have aR:a5.cell? ⟨a6,0,none⟩=some (.int .i64 J):=Y.cell a4.out 0;have aC:a5.cell? ⟨a6,1,none⟩=some (.string ⟨z.toArray⟩):=Y.cell a4.out 1;have a7:=Y.lt a4.out;have a8:a5.cell? ⟨B,4,none⟩=some (.slice ab D.length ac):=Y.cell bh.out.box 4;have a9:=Y.lt bh.out.box;obtain⟨aW,af⟩:=U (((J !=1)||(decide (D.length=0)&&(z !=[105,110]&&Df z))));have ch:=Z af;go_upto_region 5 with(fail);go_cut [52] (fun cN ax=>cN=.bool aW/\a5.grownBy ax none);case first=>
     by_cases aX:J=1
     ·subst aX;by_cases aA:D.length=0
      ·have bD:((D.length:Int)==0)=true:=(by rw[DQ];omega);by_cases bi:z=[105,110]
       ·subst bi;have N:aW=false:=(by rw[<-af];simp);have ak:=Z N;clear af N;go_wp2_with fail;go_meet;exact⟨by rw[ak.out],AB _ _⟩
       ·have cO:(z !=[105,110])=true:=JY bi;have a':=Z (bI.out z a5);have N:aW=Df z:=(by rw[<-af,Au aA,cO];simp);obtain⟨cP,ba⟩:=U (Df z);rw[ba]at a' N;have ak:=Z N;clear af N ba;go_wp2_with fail;refine a'.out.mono ?_;rintro e cQ ⟨rfl,bE⟩;go_wp2_with fail;go_meet;exact⟨by first|(rw[ak.out];done)|(rw[ak.out];simp[bi]),bE⟩
      ·have bD:((D.length:Int)==0)=false:=(by rw[A4];omega);have N:aW=false:=(by rw[<-af,As aA];simp);have ak:=Z N;clear af N;go_wp2_with fail;go_meet;exact⟨by rw[ak.out],AB _ _⟩
     ·have cH:((J:Int) !=1)=true:=(by rw[bne_iff_ne];omega);have N:aW=true:=(by rw[<-af,show(J !=1)=true from JY aX];rfl);have ak:=Z N;clear af N;go_wp2_with fail;go_meet;exact⟨by rw[ak.out],AB _ _⟩
    case rest=>
     obtain⟨rfl,bF⟩:=hcut;have bj:=Z (Y.grown a4.out bF (by simp));have bk:=Z (bh.out.grown bF);clear bF af aR aC a7 a8 a9;have dk:D.length<=500:=(by have:=aO.out;omega);have dl:S.length<=500:=(by have:=aO.out;omega);cases aW with
     |true=>
      have cR:=Z (show R=Ew (Cq S D (L++l)) (⟨J,z,ah⟩::K) [] by
       have h:=ch.out;rw[GX,CN,CN]at h;by_cases aX:J=1
       ·rcases h with h|⟨bp,am,ci⟩
        ·exact Aj aX (bne_iff_ne.1 h)
        ·have dm:=of_decide_eq_true bp;rw[a1.out,AP (fun e=>e aX),AP (by omega),AP (by rw[Um ci];decide),Ai (by rw[CN];exact⟨am,ci⟩)];rfl
       ·rw[a1.out,Ai aX];rfl)
      go_wp2_with fail;go_meet;exact⟨S,D,L++l,_,_,_,_,by have:=aO.out;omega,.inl ⟨_,rfl,cR.out⟩,bk.out⟩
     |false=>
      have af:=ch.out;rw[Bool.or_eq_false_iff]at af;have cj:=Z (show J=1 by have h:=af.1;simpa using h);obtain⟨aF,au⟩:=U ((decide (D.length=0)&&GC z));have dn:=Z au;have bc:=Z (show(if aF=true then(Co ag (Cq (S++[z]) D (L++l)) K []).bind Ew else(Co ag (Cq S (D++[z]) (L++l)) K []).bind Ew)=R by
       have bl:R=((if 0<D.length then Co ag (Cq S (D++[z]) (L++l)) K []else if GC z=true then Co ag (Cq (S++[z]) D (L++l)) K []else if(z !=F1&&Df z)=true then .ok (Cq S D (L++l)) (⟨J,z,ah⟩::K) []else Co ag (Cq S (D++[z]) (L++l)) K []:PR V)).bind Ew:=a1.out.trans (by rw[AP (fun e=>e cj.out)]);have am:=af.2;by_cases aA:D.length=0
       ·rw[Au aA,Bool.true_and]at am;rw[AP (by omega)]at bl;rw[Au aA,Bool.true_and]at au;subst au;rw[bl];by_cases hs:GC z=true
        ·rw[Ai hs,Ai hs]
        ·rw[AP hs,AP hs,AP (by rw[show(z !=F1&&Df z)=false from am];decide)]
       ·rw[Ai (by omega)]at bl;rw[As aA,Bool.false_and]at au;subst au;rw[bl];rfl)
      clear af;have aR:wc.cell? ⟨a6,0,none⟩=some (.int .i64 J):=Y.cell bj.out 0;have aC:wc.cell? ⟨a6,1,none⟩=some (.string ⟨z.toArray⟩):=Y.cell bj.out 1;have a7:=Y.lt bj.out;have a8:wc.cell? ⟨B,4,none⟩=some (.slice ab D.length ac):=Y.cell bk.out.box 4;have a9:=Y.lt bk.out.box;obtain⟨ck,cS⟩:=JH wc;subst cS;go_upto_region 6 with(fail);go_cut [61] (fun cT ax=>cT=.bool aF/\ck.grownBy ax none);case first=>
       by_cases aA:D.length=0
       ·have bD:((D.length:Int)==0)=true:=(by rw[DQ];omega);have N:aF=GC z:=(by rw[<-au,Au aA];simp);have a':=Z (bJ.out z ck (by have:=cd.out;omega));obtain⟨cP,ba⟩:=U (GC z);rw[ba]at a' N;have ak:=Z N;clear au N ba;go_wp2_with fail;refine a'.out.mono ?_;rintro e cQ ⟨rfl,bE⟩;go_wp2_with fail;go_meet;exact⟨by first|(rw[ak.out];done)|(rw[ak.out];simp[bi]),bE⟩
       ·have bD:((D.length:Int)==0)=false:=(by rw[A4];omega);have N:aF=false:=(by rw[<-au,As aA];simp);have ak:=Z N;clear au N;go_wp2_with fail;go_meet;exact⟨by rw[ak.out],AB _ _⟩
      case rest=>
       obtain⟨rfl,bG⟩:=hcut;have cl:=Z (Y.grown bj.out bG (by simp));have aB:=Z (bk.out.grown bG);clear bG au aR aC a7 a8 a9;have aC:wc.cell? ⟨a6,1,none⟩=some (.string ⟨z.toArray⟩):=Y.cell cl.out 1;have a7:=Y.lt cl.out;have cU:wc.cell? ⟨B,3,none⟩=some (.slice ai S.length aj):=Y.cell aB.out.box 3;have a8:wc.cell? ⟨B,4,none⟩=some (.slice ab D.length ac):=Y.cell aB.out.box 4;have a9:=Y.lt aB.out.box;go_upto_if 61 with(fail);go_cut [] (fun ax=> ∃(aP D2:List (List UInt8)) (cm cn:Value),(if aF=true then aP=S++[z]/\D2=D else aP=S/\D2=D++[z])/\IU w ax rb T (.ok (⟨J,z,ah⟩::K) d2) B aP D2 (L++l) cm cn (.slice ad (L++l).length ae));case first=>
        cases aF with
        |true=>
         go_wp2_with (at_builtin;go_loud (refine AV 9 (.string ⟨#[]⟩) 1 16 underlying27 EA rfl (.slice ai S.length aj) S.length (S.map sv) 0 _ 1 [sv z] rfl rfl (Own.alloc aB.out.AZ _) (by omega) (Jz _ _ z rfl) (by unfold maxLen;omega) (by omega) ?_);intro vA wA ao M bb _;(have G:=aB.out.Rt _ M);(have b9:=Y.frozen G 3);(have aQ:=Y.lt G);(have cV:wA.cell? ⟨B,3,none⟩=some (.slice ai S.length aj):=Y.cell G 3);(have bH:=Z (IU.Vp aB.out _ ao M bb));(obtain⟨cW,cX,rfl,_,_⟩:=Own.form ao);clear ao M bb G);go_meet;exact⟨S++[z],D,_,_,⟨rfl,rfl⟩,bH.out⟩
        |false=>
         go_wp2_with (at_builtin;go_loud (refine AV 9 (.string ⟨#[]⟩) 1 16 underlying27 EA rfl (.slice ab D.length ac) D.length (D.map sv) 0 _ 1 [sv z] rfl rfl (Own.alloc aB.out.words _) (by omega) (Jz _ _ z rfl) (by unfold maxLen;omega) (by omega) ?_);intro vA wA ao M bb _;(have G:=aB.out.O5 _ M);(have b9:=Y.frozen G 4);(have aQ:=Y.lt G);(have cV:wA.cell? ⟨B,4,none⟩=some (.slice ab D.length ac):=Y.cell G 4);(have bH:=Z (IU.Sz aB.out _ ao M bb));(obtain⟨cW,cX,rfl,_,_⟩:=Own.form ao);clear ao M bb G);go_meet;exact⟨S,D++[z],_,_,⟨rfl,rfl⟩,bH.out⟩
       case rest=>
        obtain⟨aP,D2,cm,cn,al,co⟩:=hcut;have cp:=Z co;have cY:=Z (show(Co ag (Cq aP D2 (L++l)) K []).bind Ew=R by
         rw[<-bc.out];cases aF with
         |true=>rw[Ai rfl]at al;rw[Ai rfl,al.1,al.2]
         |false=>rw[AP (by decide)]at al;rw[AP (by decide),al.1,al.2])
        have cZ:=Z (show aP.length+D2.length=S.length+D.length+1 by
         cases aF with
         |true=>rw[Ai rfl]at al;rw[al.1,al.2,BG,Cj];omega
         |false=>rw[AP (by decide)]at al;rw[al.1,al.2,BG,Cj];omega)
        clear al co aC a7 cU a8 a9;obtain⟨bs,a,f,h,az,aK⟩:=cp.out.st;obtain⟨an,aD,aS,c3,c4⟩:=h.cells;obtain⟨g,X,aV,t9,cM,rfl,M,aa,aM,t0,t1,t2⟩:=h.Dh;have lb:=h.lb;have a2:=h.lt;have aN:(0:Int)<=(a:Int)/\(a:Int)<((T.length:Nat):Int):=(by omega);have bf:=h.tg.len;obtain⟨LT,aE⟩:=U T.length;have ce:(a:Int)<=500:=(by omega);have cf:=Z h;have bz:=Z (BC az aK);have bA:=az.symm.trans aM;injection bA with bB bC;subst bB bC;rw[aE]at an aN M bf;have cg:=Y.frozen h.BF 1;clear h az aK aM aE a2;have cq:=BU.next cf.out bz.out.1 bz.out.2 rfl (show J≠4 by rw[cj.out];decide);have c0:=Z (cp.out.step (AN (AB wc (some rb)) (p:=⟨rb,1,none⟩) (.inl rfl) (.int .i64 ((a:Int)+1))) cq);clear cq;go_wp2_with fail;go_roundg (gk-1);case rel=>exact⟨ag,aP,D2,_,K,_,_,_,cY.out,by have:=aO.out;simp only[BR]at this;omega,by have:=aO.out;simp only[BR]at this;omega,by have:=aO.out;have:=cZ.out;simp only[BR,BG]at*;omega,c0.out⟩
        case measure=>have:=aO.out;simp only[BR]at this;omega
end Go.Proofs.YtdhfhphbkfgamaaGreat
