/- PrintTells: a part of its proof. -/
import Derived.Test.YtdhfhphbkfgamaaGreatEm
import Derived.Test.YtdhfhphbkfgamaaGreatPr
set_option maxRecDepth 100000
namespace Go.Proofs.YtdhfhphbkfgamaaGreat
open Go.RowKit Lx
def VD (w1:World) (p:Value) (W:World) (v:Value) (ps:List (List V)):Prop:= ∃h,Own W 22 1 v ps.length h 0∧ ∀i (z:i<ps.length),∃u,h[i]? =some u∧Cm (fun k=>p.ownBlock=some k∨low w1 k) W u ps[i]∧ ∀g,u.ownBlock=some g→w1.heap.size≤g
structure Eh (w w1 W:World) (rb:Nat) (T:List AX) (st:DS) (A B:Nat) (ss:List (List UInt8)) (P:List (List (List UInt8))) (ps:List (List V)) (b p v:Value):Prop where
 st:BS W rb T st
 box:Y W B 32 #[.int .i64 14,.string ⟨#[]⟩,.bool false,.slice none 0 0,b,.slice none 0 0,p,.slice none 0 0]
 res:Y W A 32 #[.int .i64 0,.string ⟨#[]⟩,.bool false,.slice none 0 0,.slice none 0 0,.slice none 0 0,.slice none 0 0,.slice none 0 0]
 hA:w.heap.size≤A
 hB:w.heap.size≤B
 ne:A≠B
 lA:A<w1.heap.size
 lB:B<w1.heap.size
 words:DV W b ss
 nb: ∀k,b.ownBlock=some k→w.heap.size≤k
 AS:NP (low w) W p P
 parts:VD w1 p W v ps
 nv: ∀k,v.ownBlock=some k→w.heap.size≤k
 kb: ∀ms∈ps,KB ms
 gr:w.grownBy W (some rb)
 Ex:rb<w.heap.size
 ls:w1.heap.size≤W.heap.size
structure OO (w W:World) (rb:Nat) (T:List AX) (st:DS) (v:Value) (L:List (List UInt8)):Prop where
 st:BS W rb T st
 own:DV W v L
 new: ∀k,v.ownBlock=some k→w.heap.size≤k
 gr:w.grownBy W (some rb)
 Ex:rb<w.heap.size
section
variable {w w1 W W' wA:World} {rb A B:Nat} {T:List AX} {st st':DS} {ss:List (List UInt8)} {P:List (List (List UInt8))} {ps:List (List V)} {b p v vA u:Value} {L:List (List UInt8)}
theorem OO.nil (h:BS W rb T st) (z:rb<W.heap.size):OO W W rb T st (.slice none 0 0) []:=⟨h,Own.nil _ _ _ _,fun k hk=>(by cases hk),AB W _,z⟩
theorem OO.step (h:OO w W rb T st v L) (z:W.grownBy W' (some rb)) (F:BS W' rb T st'):OO w W' rb T st' v L:=
 ⟨F,Da z h.st.AN h.own (by decide),h.new,AJ h.gr z,h.Ex⟩
theorem OO.grown (h:OO w W rb T st v L) (z:W.grownBy W' none):OO w W' rb T st v L:=h.step (Bp z) (h.st.grown z)
theorem OO.app (h:OO w W rb T st v L) (o:Obj) {x:List UInt8} (F:Own wA 9 1 vA (L.length+1) (L.map sv++[sv x]) 0) (z:Az (fun k=>v.ownBlock=some k) (W.alloc o) wA) (G: ∀k,vA.ownBlock=some k→v.ownBlock=some k∨(W.alloc o).heap.size≤k):OO w wA rb T st vA (L++[x]):=by
 refine⟨(h.st.grown (AF (AB W none) o)).Bl z (fun k e=>by have:=h.new k e;have:=h.Ex;omega),?_,fun k hk=>?_,Fq h.gr o z h.new,h.Ex⟩
 ·unfold DV;rw[BE,Cd,List.map_append];exact F
 ·rcases G k hk with e|e
  ·exact h.new k e
  ·rw[World.size_alloc]at e;have:=h.gr.size;omega
theorem Eh.step (h:Eh w w1 W rb T st A B ss P ps b p v) (z:W.grownBy W' (some rb)) (J:BS W' rb T st'):Eh w w1 W' rb T st' A B ss P ps b p v:=by
 have F:=h.st.AN;obtain⟨K,M,N,O⟩:=h.AS;obtain⟨X,aa,ab⟩:=h.parts;exact⟨J,Y.grown h.box z (fun e=>by injection e with e;have:=h.hB;have:=h.Ex;omega),Y.grown h.res z (fun e=>by injection e with e;have:=h.hA;have:=h.Ex;omega),h.hA,h.hB,h.ne,h.lA,h.lB,Da z F h.words (by decide),h.nb,
  ⟨K,Da z F M (by decide),N,fun i G=>by obtain⟨u,I,hs,ac⟩:=O i G;exact⟨u,I,Da z F hs (by decide),ac⟩⟩,
  ⟨X,Da z F aa (by decide),fun i G=>by obtain⟨u,I,ad,ae⟩:=ab i G;exact⟨u,I,ad.Mb z F,ae⟩⟩,h.nv,h.kb,AJ h.gr z,h.Ex,Ef h.ls z.size⟩
theorem Eh.grown (h:Eh w w1 W rb T st A B ss P ps b p v) (z:W.grownBy W' none):Eh w w1 W' rb T st A B ss P ps b p v:=h.step (Bp z) (h.st.grown z)
theorem Eh.start {ts:List AX} {d:Nat} (z:BS w rb T (.ok ts d)):Eh w ((w.alloc (.cells #[.int .i64 0,.string ⟨#[]⟩,.bool false,.slice none 0 0,.slice none 0 0,.slice none 0 0,.slice none 0 0,.slice none 0 0] 32)).alloc (.cells #[.int .i64 14,.string ⟨#[]⟩,.bool false,.slice none 0 0,.slice none 0 0,.slice none 0 0,.slice none 0 0,.slice none 0 0] 32)) ((w.alloc (.cells #[.int .i64 0,.string ⟨#[]⟩,.bool false,.slice none 0 0,.slice none 0 0,.slice none 0 0,.slice none 0 0,.slice none 0 0] 32)).alloc (.cells #[.int .i64 14,.string ⟨#[]⟩,.bool false,.slice none 0 0,.slice none 0 0,.slice none 0 0,.slice none 0 0,.slice none 0 0] 32)) rb T (.ok ts d) w.heap.size (w.heap.size+1) [] [] [] (.slice none 0 0) (.slice none 0 0) (.slice none 0 0):=by
 have F:=Y.new (w.alloc (.cells #[.int .i64 0,.string ⟨#[]⟩,.bool false,.slice none 0 0,.slice none 0 0,.slice none 0 0,.slice none 0 0,.slice none 0 0] 32)) 32 #[.int .i64 14,.string ⟨#[]⟩,.bool false,.slice none 0 0,.slice none 0 0,.slice none 0 0,.slice none 0 0,.slice none 0 0];rw[World.size_alloc]at F;refine⟨(z.grown (AF (AB w none) _)).grown (AF (AB _ none) _),F,(Y.new w 32 _).alloc _,BL _,by omega,by omega,by rw[World.size_alloc,World.size_alloc];omega,by rw[World.size_alloc,World.size_alloc];omega,Own.nil _ _ _ _,fun k hk=>(by cases hk),⟨[],Own.nil _ _ _ _,fun k hk=>(by cases hk),fun i h=>Ai h (by simp)⟩,⟨[],Own.nil _ _ _ _,fun i h=>Ai h (by simp)⟩,fun k hk=>(by cases hk),fun m G=>(by cases G),AF (AF (AB w _) _) _,z.lb,BL _⟩
theorem Wp (W:World) (x:List UInt8):DV (W.alloc (.cells #[.string ⟨x.toArray⟩] 9)) (.slice (some ⟨W.heap.size,0,none⟩) 1 1) [x]:=
 ⟨rfl,.inr ⟨W.heap.size,0,1,_,(0,0),rfl,Y.new W 9 _,BL _,BL _,by unfold maxLen;omega,by show 0+1*1≤1;omega,fun j h=>(by(have F:j<1:=h);(have z:j=0:=by omega);subst z;rfl)⟩⟩
theorem Eh.Xn (h:Eh w w1 W rb T st A B [] [] [] (.slice none 0 0) (.slice none 0 0) (.slice none 0 0)) (x:List UInt8):Eh w w1 ((W.alloc (.cells #[.string ⟨x.toArray⟩] 9)).setCell ⟨B,4,none⟩ (.slice (some ⟨W.heap.size,0,none⟩) 1 1)) rb T st A B [x] [] [] (.slice (some ⟨W.heap.size,0,none⟩) 1 1) (.slice none 0 0) (.slice none 0 0):=by
 have z:=h.grown (AF (AB W none) (.cells #[.string ⟨x.toArray⟩] 9));have J:=Y.lt h.box;have G:W.heap.size≠B:=(by omega);refine⟨z.st.fresh (DP h.Ex h.hB) 4 _,Y.AV z.box 4 _,Y.Be z.res (p:=⟨B,4,none⟩) h.ne _,h.hA,h.hB,h.ne,h.lA,h.lB,Own.Be (Wp W x) (p:=⟨B,4,none⟩) (fun e=>G (Option.some.inj e)) _,fun k hk=>by have K:W.heap.size=k:=Option.some.inj hk;have:=h.gr.size;omega,⟨[],Own.nil _ _ _ _,fun k hk=>(by cases hk),fun i F=>Ai F (by simp)⟩,⟨[],Own.nil _ _ _ _,fun i F=>Ai F (by simp)⟩,fun k hk=>(by cases hk),fun m I=>(by cases I),AM z.gr (p:=⟨B,4,none⟩) (.inr h.hB) _,h.Ex,Ef z.ls (AM (AB _ (some B)) (p:=⟨B,4,none⟩) (.inl rfl) _).size⟩
theorem Sd {ns:List V} {z:Value} (h:Cm (fun k=>p.ownBlock=some k∨low w1 k) W u ns) (o:Obj) (I: ∀k,p.ownBlock=some k→Bk (W.alloc o) k 27) (F:Az (fun k=>p.ownBlock=some k) (W.alloc o) wA) (J: ∀k,z.ownBlock=some k→p.ownBlock=some k∨(W.alloc o).heap.size≤k):Cm (fun k=>z.ownBlock=some k∨low w1 k) wA u ns:=by
 have K:=(h.grown (AF (AB W none) o)).more (S:=fun k=>(W.alloc o).heap.size≤k) (fun _ h=>h);obtain⟨M,G,N⟩:=K;refine⟨M,G.Bl F (fun g O e=>Ai ((G.AN O).uniq (I g e)) (by decide)),fun i X=>?_⟩;obtain⟨x,y,r,aa,k,e,ab⟩:=N i X;refine⟨x,y,r,aa,k,e,(Bi.Bl F (fun k e=> .inl (.inl e)) ab).mono fun k hk=>?_⟩;rcases hk with hk|hk
 ·rcases J k hk with e|e
  ·exact .inl (.inl e)
  ·exact .inr e
 ·exact .inl (.inr hk)
theorem Eh.LI (h:Eh w w1 W rb T st A B ss P ps b p v) {J:List Value} (N:Own W 27 1 p P.length J 0) (am: ∀i (h:i<P.length),∃u,J[i]? =some u∧DV W u P[i]∧Av (low w) u) (o:Obj) {K z:Value} (an:DV W K L) (ao: ∀k,K.ownBlock=some k→w.heap.size≤k)
  (F:Own wA 27 1 z (P.length+1) (J++[K]) 0) (O:Az (fun k=>p.ownBlock=some k) (W.alloc o) wA) (X: ∀k,z.ownBlock=some k→p.ownBlock=some k∨(W.alloc o).heap.size≤k):
  Y wA B 32 #[.int .i64 14,.string ⟨#[]⟩,.bool false,.slice none 0 0,b,.slice none 0 0,p,.slice none 0 0]∧Eh w w1 (wA.setCell ⟨B,6,none⟩ z) rb T st A B ss (P++[L]) ps b z v∧
  ∀(u:Value) (ns:List V),Cm (fun k=>p.ownBlock=some k∨low w1 k) W u ns→(∀g,u.ownBlock=some g→w1.heap.size≤g)→Cm (fun k=>z.ownBlock=some k∨low w1 k) (wA.setCell ⟨B,6,none⟩ z) u ns:=by
 have G:=AF (AB W none) o;have I:=h.grown G;have aa: ∀k,p.ownBlock=some k→Bk (W.alloc o) k 27:=fun k e=>Own.AN (Bh G N) e
 have ab:Y wA B 32 #[.int .i64 14,.string ⟨#[]⟩,.bool false,.slice none 0 0,b,.slice none 0 0,p,.slice none 0 0]:=Y.Bl I.box O (fun e=>Ai ((aa _ e).uniq I.box.AN) (by decide));have ap:Y wA A 32 #[.int .i64 0,.string ⟨#[]⟩,.bool false,.slice none 0 0,.slice none 0 0,.slice none 0 0,.slice none 0 0,.slice none 0 0]:=Y.Bl I.res O (fun e=>Ai ((aa _ e).uniq I.res.AN) (by decide));have ah: ∀k,p.ownBlock=some k→w.heap.size≤k:=fun k hk=>by obtain⟨_,_,af,_⟩:=h.AS;exact Nat.not_lt.1 (af k hk)
 have aq: ∀k,z.ownBlock=some k→w.heap.size≤k:=fun k hk=>by
  rcases X k hk with e|e
  ·exact ah k e
  ·rw[World.size_alloc]at e;have:=h.gr.size;omega
 have ac:Az (fun k=>p.ownBlock=some k∨k=B) (W.alloc o) (wA.setCell ⟨B,6,none⟩ z):=Az.setCell (Az.mono O fun k _ e=> .inl e) (p:=⟨B,6,none⟩) (.inl (.inr rfl)) z;have ai: ∀k,(p.ownBlock=some k∨k=B)→w.heap.size≤k:=fun k e=>by
  rcases e with e|rfl
  ·exact ah k e
  ·exact h.hB
 have ad: ∀ {e:TypeId} {s n k:Nat} {v:Value} {xs:List Value},Own W e s v n xs k→e≠27→e≠32→Own (wA.setCell ⟨B,6,none⟩ z) e s v n xs k:=fun F N ar=>(Bh G F).Bl ac fun g ae e=>by
  rcases e with e|rfl
  ·exact N (((Bh G F).AN ae).uniq (aa g e))
  ·exact ar (((Bh G F).AN ae).uniq I.box.AN)
 have aj: ∀(u:Value) (ns:List V),Cm (fun k=>p.ownBlock=some k∨low w1 k) W u ns→(∀g,u.ownBlock=some g→w1.heap.size≤g)→Cm (fun k=>z.ownBlock=some k∨low w1 k) (wA.setCell ⟨B,6,none⟩ z) u ns:=fun u ns M ae=>(Sd M o aa O X).R9 (q:=⟨B,6,none⟩) (fun e=>Nat.not_lt.2 (ae _ e) h.lB) ab.AN _
 obtain⟨au,aw,ax⟩:=h.parts;refine⟨ab,⟨(h.st.grown G).Bl ac (fun k e=>by have:=ai k e;have:=h.Ex;omega),Y.AV ab 6 _,Y.Be ap (p:=⟨B,6,none⟩) h.ne _,h.hA,h.hB,h.ne,h.lA,h.lB,ad h.words (by decide) (by decide),h.nb,⟨J++[K],?_,fun k hk e=>Ai e (Nat.not_lt.2 (aq k hk)),fun i ag=>?_⟩,⟨au,ad aw (by decide) (by decide),fun i ag=>by obtain⟨u,M,X,ak⟩:=ax i ag;exact⟨u,M,aj u _ X ak,ak⟩⟩,h.nv,h.kb,Fq h.gr o ac ai,h.Ex,Ef I.ls ac.size⟩,aj⟩
 ·rw[BE,Cd];exact F.Be (p:=⟨B,6,none⟩) (fun e=>Ai ((Own.AN F e).uniq ab.AN) (by decide)) _
 ·rw[BE,Cd]at ag;have ay:=N.len;by_cases al:i<P.length
  ·obtain⟨u,M,hs,af⟩:=am i al;refine⟨u,by rw[List.getElem?_append_left (by omega)];exact M,?_,af⟩;rw[List.getElem_append_left al];exact ad hs (by decide) (by decide)
  ·obtain rfl:i=P.length:=by omega
   refine⟨K,by rw[List.getElem?_append_right (by omega),show P.length-J.length=0 by omega];rfl,?_,fun k hk e=>Ai e (Nat.not_lt.2 (ao k hk))⟩;rw[List.getElem_append_right (BL _)];simp only[Nat.sub_self,List.getElem_cons_zero];exact ad an (by decide) (by decide)
theorem Eh.MQ (h:Eh w w1 W rb T st A B ss P ps b p v) {G:List Value} (K:Own W 22 1 v ps.length G 0) (ac: ∀i (h:i<ps.length),∃u,G[i]? =some u∧Cm (fun k=>p.ownBlock=some k∨low w1 k) W u ps[i]∧ ∀g,u.ownBlock=some g→w1.heap.size≤g) (o:Obj) {ms:List V} (O:Cm (fun k=>p.ownBlock=some k∨low w1 k) W u ms) (hk:KB ms) (ad: ∀g,u.ownBlock=some g→w1.heap.size≤g)
  (M:Own wA 22 1 vA (ps.length+1) (G++[u]) 0) (z:Az (fun k=>v.ownBlock=some k) (W.alloc o) wA) (ae: ∀k,vA.ownBlock=some k→v.ownBlock=some k∨(W.alloc o).heap.size≤k):Eh w w1 wA rb T st A B ss P (ps++[ms]) b p vA:=by
 have F:=AF (AB W none) o;have I:=h.grown F;have J: ∀k,v.ownBlock=some k→Bk (W.alloc o) k 22:=fun k e=>Own.AN (Bh F K) e
 have X: ∀ {e:TypeId} {s n k:Nat} {v:Value} {xs:List Value},Own W e s v n xs k→e≠22→Own wA e s v n xs k:=fun M K=>(Bh F M).Bl z fun g af e=>K (((Bh F M).AN af).uniq (J g e))
 obtain⟨ag,ah,ai,aj⟩:=h.AS;refine⟨(h.st.grown F).Bl z (fun k e=>by have:=h.nv k e;have:=h.Ex;omega),Y.Bl I.box z (fun e=>Ai ((J _ e).uniq I.box.AN) (by decide)),Y.Bl I.res z (fun e=>Ai ((J _ e).uniq I.res.AN) (by decide)),h.hA,h.hB,h.ne,h.lA,h.lB,X h.words (by decide),h.nb,⟨ag,X ah (by decide),ai,fun i aa=>by obtain⟨u,O,hs,ak⟩:=aj i aa;exact⟨u,O,X hs (by decide),ak⟩⟩,⟨G++[u],by rw[BE,Cd];exact M,fun i aa=>?_⟩,fun k hk=>?_,fun m N=>?_,Fq h.gr o z h.nv,h.Ex,Ef I.ls z.size⟩
 ·rw[BE,Cd]at aa;have ap:=K.len;by_cases ab:i<ps.length
  ·obtain⟨al,am,an,ao⟩:=ac i ab;refine⟨al,by rw[List.getElem?_append_left (by omega)];exact am,?_⟩;rw[List.getElem_append_left ab];exact⟨(an.grown F).TC z J,ao⟩
  ·obtain rfl:i=ps.length:=by omega
   refine⟨u,by rw[List.getElem?_append_right (by omega),show ps.length-G.length=0 by omega];rfl,?_⟩;rw[List.getElem_append_right (BL _)];simp only[Nat.sub_self,List.getElem_cons_zero];exact⟨(O.grown F).TC z J,ad⟩
 ·rcases ae k hk with e|e
  ·exact h.nv k e
  ·rw[World.size_alloc]at e;have:=h.gr.size;omega
 ·rw[List.mem_append,List.mem_singleton]at N;rcases N with N|rfl
  ·exact h.kb m N
  ·exact hk
end
def Xv (w0 w':World) (n:V) (ps:List (List V)) (v:Value):Prop:= ∃b p h,v=.tuple #[.agg #[.int .i64 14,.string ⟨#[]⟩,.bool false,.slice none 0 0,b,.slice none 0 0,p,.slice none 0 0],h]∧Bi (low w0) w' (.slice none 0 0) b (.slice none 0 0) p (.slice none 0 0) n∧n= { kind:=14,words:=n.words,AS:=n.AS } ∧DE w0 w' h ps∧(∀ms∈ps,KB ms)∧BO ps≤10000∧ps.length≤600
def UK (rb:Nat) (T:List AX) (d h:Nat) (w:World) (R:PR V):Ending→World→Prop:=fun e w'=> ∃v n ps st,e=.returned v∧Xv w w' n ps v∧BS w' rb T st∧w.grownBy w' (some rb)∧Cg R d h (BO ps) (fun z=> .ok { n with kids:=(AP ps).2 } z (AP ps).1) st
theorem Eh.fin {w w1 W:World} {rb A B d M:Nat} {T:List AX} {st:DS} {ss:List (List UInt8)} {P:List (List (List UInt8))} {ps:List (List V)} {b p v:Value} {R:PR V} (h:Eh w w1 W rb T st A B ss P ps b p v) (N:w.heap.size≤w1.heap.size) (hs:Cg R d M (BO ps) (fun aa=> .ok { kind:=14,words:=ss,AS:=P,kids:=(AP ps).2 } aa (AP ps).1) st) (I:BO ps≤10000) (ab:ps.length≤600):
  Y (Cf W A (.int .i64 14) (.string ⟨#[]⟩) (.bool false) (.slice none 0 0) b (.slice none 0 0) p (.slice none 0 0)) A 32 #[.int .i64 14,.string ⟨#[]⟩,.bool false,.slice none 0 0,b,.slice none 0 0,p,.slice none 0 0]∧
  UK rb T d M w R (.returned (.tuple #[.agg #[.int .i64 14,.string ⟨#[]⟩,.bool false,.slice none 0 0,b,.slice none 0 0,p,.slice none 0 0],v])) (Cf W A (.int .i64 14) (.string ⟨#[]⟩) (.bool false) (.slice none 0 0) b (.slice none 0 0) p (.slice none 0 0)):=by
 have z:=Ft W A (.int .i64 14) (.string ⟨#[]⟩) (.bool false) (.slice none 0 0) b (.slice none 0 0) p (.slice none 0 0);have ac:=h.st.Bl z (fun k e=>by subst e;have:=h.hA;have:=h.Ex;omega);have ad:w.grownBy (Cf W A (.int .i64 14) (.string ⟨#[]⟩) (.bool false) (.slice none 0 0) b (.slice none 0 0) p (.slice none 0 0)) (some rb):=
  ⟨z.os.trans h.gr.os,z.tape.trans h.gr.tape,z.output.trans h.gr.output,Ef h.gr.size z.size,fun k hk ae=>(z.block k (DP hk h.gr.size) (fun e=>by have:=h.hA;omega)).trans (h.gr.block k hk ae)⟩
 have G: ∀ {e:TypeId} {s n k:Nat} {v:Value} {xs:List Value},Own W e s v n xs k→e≠32→Own (Cf W A (.int .i64 14) (.string ⟨#[]⟩) (.bool false) (.slice none 0 0) b (.slice none 0 0) p (.slice none 0 0)) e s v n xs k:=fun O I=>O.Bl z fun g F e=>by subst e;exact I ((O.AN F).uniq h.res.AN)
 obtain⟨af,ag,ah,ai⟩:=h.AS;obtain⟨aj,ak,al⟩:=h.parts;have am:Xv w (Cf W A (.int .i64 14) (.string ⟨#[]⟩) (.bool false) (.slice none 0 0) b (.slice none 0 0) p (.slice none 0 0)) { kind:=14,words:=ss,AS:=P } ps (.tuple #[.agg #[.int .i64 14,.string ⟨#[]⟩,.bool false,.slice none 0 0,b,.slice none 0 0,p,.slice none 0 0],v]):=by
  refine⟨b,p,v,rfl,⟨Own.nil _ _ _ _,G h.words (by decide),Own.nil _ _ _ _,⟨af,G ag (by decide),ah,fun i J=>by obtain⟨u,K,hs,an⟩:=ai i J;exact⟨u,K,G hs (by decide),an⟩⟩,Own.nil _ _ _ _,fun k hk=>(by cases hk),fun k hk e=>Ai e (Nat.not_lt.2 (h.nb k hk)),fun k hk=>(by cases hk),fun k hk=>(by cases hk)⟩,rfl,⟨aj,G ak (by decide),fun i J=>?_⟩,h.kb,I,ab⟩;obtain⟨u,K,ao,X⟩:=al i J;refine⟨u,K,?_,fun g F=>Ef N (X g F)⟩;have ap:Cm (low w) W u ps[i]:=ao.mono fun k hk=> .inr (DP hk N)
  obtain⟨aq,ar,au⟩:=ap;refine⟨aq,ar.Bl z (fun g F e=>by subst e;have:=X _ F;have:=h.lA;omega),fun j aw=>?_⟩;obtain⟨x,y,r,ax,k,e,ay⟩:=au j aw;have az:Fr (fun _=>True) W (Cf W A (.int .i64 14) (.string ⟨#[]⟩) (.bool false) (.slice none 0 0) b (.slice none 0 0) p (.slice none 0 0)):=Az.mono z fun k _ e=>⟨trivial,.inr (by subst e;exact h.res.AN)⟩
  exact⟨x,y,r,ax,k,e,ay.fr az⟩
 exact⟨Y.AV (Y.AV (Y.AV (Y.AV (Y.AV (Y.AV (Y.AV (Y.AV h.res 0 _) 1 _) 2 _) 3 _) 4 _) 5 _) 6 _) 7 _,_,_,_,_,rfl,am,ac,ad,hs⟩
end Go.Proofs.YtdhfhphbkfgamaaGreat
