/- A part. -/
import Derived.Test.YtdhfhphbkfgamaaGreatEm
import Derived.Test.YtdhfhphbkfgamaaGreatPr
set_option maxRecDepth 100000
set_option linter.all false
namespace Go.Proofs.YtdhfhphbkfgamaaGreat
open Go.RowKit Lx Proofs.Tryz
def Vl(w1:World)(p:Value)(W:World)(v:Value)(ps:List (List V)):Prop:=∃h,Own W 22 1 v ps.length h 0/\ ∀i (z:i<ps.length),∃u,h[i]? =some u/\Ct (fun k=>p.ownBlock=some k\/low w1 k) W u ps[i]/\ ∀g,u.ownBlock=some g->w1.heap.size<=g
structure Ey(w w1 W:World)(rb:Nat)(T:List AY)(st:DS)(A B:Nat)(ss:List (List UInt8))(P:List (List (List UInt8)))(ps:List (List V))(b p v:Value):Prop where
 st:BU W rb T st
 box:Y W B 32 #[.int .i64 14,.string ⟨#[]⟩,.bool false,.slice none 0 0,b,.slice none 0 0,p,.slice none 0 0]
 res:Y W A 32 #[.int .i64 0,.string ⟨#[]⟩,.bool false,.slice none 0 0,.slice none 0 0,.slice none 0 0,.slice none 0 0,.slice none 0 0]
 hA:w.heap.size<=A
 hB:w.heap.size<=B
 ne:A≠B
 lA:A<w1.heap.size
 lB:B<w1.heap.size
 words:Dd W b ss
 nb:∀k,b.ownBlock=some k->w.heap.size<=k
 AT:NH (low w) W p P
 parts:Vl w1 p W v ps
 nv:∀k,v.ownBlock=some k->w.heap.size<=k
 kb:∀ms∈ps,KB ms
 gr:w.grownBy W (some rb)
 E8:rb<w.heap.size
 ls:w1.heap.size<=W.heap.size
structure Oq(w W:World)(rb:Nat)(T:List AY)(st:DS)(v:Value)(L:List (List UInt8)):Prop where
 st:BU W rb T st
 own:Dd W v L
 new:∀k,v.ownBlock=some k->w.heap.size<=k
 gr:w.grownBy W (some rb)
 E8:rb<w.heap.size
section
variable {w w1 W W' wA:World}{rb A B:Nat}{T:List AY}{st st':DS}{ss:List (List UInt8)}{P:List (List (List UInt8))}{ps:List (List V)}{b p v vA u:Value}{L:List (List UInt8)}
theorem Oq.nil(h:BU W rb T st)(z:rb<W.heap.size):Oq W W rb T st (.slice none 0 0) []:=⟨h,Own.nil _ _ _ _,fun k hk=>(by cases hk),AB W _,z⟩
theorem Oq.step(h:Oq w W rb T st v L)(z:W.grownBy W' (some rb))(F:BU W' rb T st'):Oq w W' rb T st' v L:=
 ⟨F,Dl z h.st.AO h.own (by decide),h.new,AJ h.gr z,h.E8⟩
theorem Oq.grown(h:Oq w W rb T st v L)(z:W.grownBy W' none):Oq w W' rb T st v L:=h.step (Bt z) (h.st.grown z)
theorem Oq.app(h:Oq w W rb T st v L)(o:Obj){x:List UInt8}(F:Own wA 9 1 vA (L.length+1) (L.map sv++[sv x]) 0)(z:Az (fun k=>v.ownBlock=some k) (W.alloc o) wA)(G:∀k,vA.ownBlock=some k->v.ownBlock=some k\/(W.alloc o).heap.size<=k):Oq w wA rb T st vA (L++[x]):=by
 refine⟨(h.st.grown (AF (AB W none) o)).Bo z (fun k e=>by have:=h.new k e;have:=h.E8;omega),?_,fun k hk=>?_,F7 h.gr o z h.new,h.E8⟩
 ·unfold Dd;rw[BG,Cj,FN];exact F
 ·rcases G k hk with e|e
  ·exact h.new k e
  ·rw[BW]at e;have:=h.gr.size;omega
theorem Ey.step(h:Ey w w1 W rb T st A B ss P ps b p v)(z:W.grownBy W' (some rb))(J:BU W' rb T st'):Ey w w1 W' rb T st' A B ss P ps b p v:=by
 have F:=h.st.AO;obtain⟨K,M,N,O⟩:=h.AT;obtain⟨X,aa,ab⟩:=h.parts;exact⟨J,Y.grown h.box z (fun e=>by injection e with e;have:=h.hB;have:=h.E8;omega),Y.grown h.res z (fun e=>by injection e with e;have:=h.hA;have:=h.E8;omega),h.hA,h.hB,h.ne,h.lA,h.lB,Dl z F h.words (by decide),h.nb,
  ⟨K,Dl z F M (by decide),N,fun i G=>by obtain⟨u,I,hs,ac⟩:=O i G;exact⟨u,I,Dl z F hs (by decide),ac⟩⟩,
  ⟨X,Dl z F aa (by decide),fun i G=>by obtain⟨u,I,ad,ae⟩:=ab i G;exact⟨u,I,ad.M6 z F,ae⟩⟩,h.nv,h.kb,AJ h.gr z,h.E8,E0 h.ls z.size⟩
theorem Ey.grown(h:Ey w w1 W rb T st A B ss P ps b p v)(z:W.grownBy W' none):Ey w w1 W' rb T st A B ss P ps b p v:=h.step (Bt z) (h.st.grown z)
theorem Ey.start{ts:List AY}{d:Nat}(z:BU w rb T (.ok ts d)):Ey w ((w.alloc (.cells #[.int .i64 0,.string ⟨#[]⟩,.bool false,.slice none 0 0,.slice none 0 0,.slice none 0 0,.slice none 0 0,.slice none 0 0] 32)).alloc (.cells #[.int .i64 14,.string ⟨#[]⟩,.bool false,.slice none 0 0,.slice none 0 0,.slice none 0 0,.slice none 0 0,.slice none 0 0] 32)) ((w.alloc (.cells #[.int .i64 0,.string ⟨#[]⟩,.bool false,.slice none 0 0,.slice none 0 0,.slice none 0 0,.slice none 0 0,.slice none 0 0] 32)).alloc (.cells #[.int .i64 14,.string ⟨#[]⟩,.bool false,.slice none 0 0,.slice none 0 0,.slice none 0 0,.slice none 0 0,.slice none 0 0] 32)) rb T (.ok ts d) w.heap.size (w.heap.size+1) [] [] [] (.slice none 0 0) (.slice none 0 0) (.slice none 0 0):=by
 have F:=Y.new (w.alloc (.cells #[.int .i64 0,.string ⟨#[]⟩,.bool false,.slice none 0 0,.slice none 0 0,.slice none 0 0,.slice none 0 0,.slice none 0 0] 32)) 32 #[.int .i64 14,.string ⟨#[]⟩,.bool false,.slice none 0 0,.slice none 0 0,.slice none 0 0,.slice none 0 0,.slice none 0 0];rw[BW]at F;refine⟨(z.grown (AF (AB w none) _)).grown (AF (AB _ none) _),F,(Y.new w 32 _).alloc _,BN _,by omega,by omega,by rw[BW,BW];omega,by rw[BW,BW];omega,Own.nil _ _ _ _,fun k hk=>(by cases hk),⟨[],Own.nil _ _ _ _,fun k hk=>(by cases hk),fun i h=>Aj h (by simp)⟩,⟨[],Own.nil _ _ _ _,fun i h=>Aj h (by simp)⟩,fun k hk=>(by cases hk),fun m G=>(by cases G),AF (AF (AB w _) _) _,z.lb,BN _⟩
theorem Xf(W:World)(x:List UInt8):Dd (W.alloc (.cells #[.string ⟨x.toArray⟩] 9)) (.slice (some ⟨W.heap.size,0,none⟩) 1 1) [x]:=
 ⟨rfl,.inr ⟨W.heap.size,0,1,_,(0,0),rfl,Y.new W 9 _,BN _,BN _,by unfold maxLen;omega,by show 0+1*1<=1;omega,fun j h=>(by(have F:j<1:=h);(have z:j=0:=by omega);subst z;rfl)⟩⟩
theorem Ey.YC(h:Ey w w1 W rb T st A B [] [] [] (.slice none 0 0) (.slice none 0 0) (.slice none 0 0))(x:List UInt8):Ey w w1 ((W.alloc (.cells #[.string ⟨x.toArray⟩] 9)).setCell ⟨B,4,none⟩ (.slice (some ⟨W.heap.size,0,none⟩) 1 1)) rb T st A B [x] [] [] (.slice (some ⟨W.heap.size,0,none⟩) 1 1) (.slice none 0 0) (.slice none 0 0):=by
 have z:=h.grown (AF (AB W none) (.cells #[.string ⟨x.toArray⟩] 9));have J:=Y.lt h.box;have G:W.heap.size≠B:=(by omega);refine⟨z.st.fresh (DZ h.E8 h.hB) 4 _,Y.AW z.box 4 _,Y.Bi z.res (p:=⟨B,4,none⟩) h.ne _,h.hA,h.hB,h.ne,h.lA,h.lB,Own.Bi (Xf W x) (p:=⟨B,4,none⟩) (fun e=>G (Option.some.inj e)) _,fun k hk=>by have K:W.heap.size=k:=Option.some.inj hk;have:=h.gr.size;omega,⟨[],Own.nil _ _ _ _,fun k hk=>(by cases hk),fun i F=>Aj F (by simp)⟩,⟨[],Own.nil _ _ _ _,fun i F=>Aj F (by simp)⟩,fun k hk=>(by cases hk),fun m I=>(by cases I),AN z.gr (p:=⟨B,4,none⟩) (.inr h.hB) _,h.E8,E0 z.ls (AN (AB _ (some B)) (p:=⟨B,4,none⟩) (.inl rfl) _).size⟩
theorem SO{ns:List V}{z:Value}(h:Ct (fun k=>p.ownBlock=some k\/low w1 k) W u ns)(o:Obj)(I:∀k,p.ownBlock=some k->Bn (W.alloc o) k 27)(F:Az (fun k=>p.ownBlock=some k) (W.alloc o) wA)(J:∀k,z.ownBlock=some k->p.ownBlock=some k\/(W.alloc o).heap.size<=k):Ct (fun k=>z.ownBlock=some k\/low w1 k) wA u ns:=by
 have K:=(h.grown (AF (AB W none) o)).more (S:=fun k=>(W.alloc o).heap.size<=k) (fun _ h=>h);obtain⟨M,G,N⟩:=K;refine⟨M,G.Bo F (fun g O e=>Aj ((G.AO O).uniq (I g e)) (by decide)),fun i X=>?_⟩;obtain⟨x,y,r,aa,k,e,ab⟩:=N i X;refine⟨x,y,r,aa,k,e,(Bk.Bo F (fun k e=> .inl (.inl e)) ab).mono fun k hk=>?_⟩;rcases hk with hk|hk
 ·rcases J k hk with e|e
  ·exact .inl (.inl e)
  ·exact .inr e
 ·exact .inl (.inr hk)
theorem Ey.Lr(h:Ey w w1 W rb T st A B ss P ps b p v){J:List Value}(N:Own W 27 1 p P.length J 0)(am:∀i (h:i<P.length),∃u,J[i]? =some u/\Dd W u P[i]/\Av (low w) u)(o:Obj){K z:Value}(an:Dd W K L)(ao:∀k,K.ownBlock=some k->w.heap.size<=k)
  (F:Own wA 27 1 z (P.length+1) (J++[K]) 0) (O:Az (fun k=>p.ownBlock=some k) (W.alloc o) wA) (X:∀k,z.ownBlock=some k->p.ownBlock=some k\/(W.alloc o).heap.size<=k):
  Y wA B 32 #[.int .i64 14,.string ⟨#[]⟩,.bool false,.slice none 0 0,b,.slice none 0 0,p,.slice none 0 0]/\Ey w w1 (wA.setCell ⟨B,6,none⟩ z) rb T st A B ss (P++[L]) ps b z v/\
  ∀(u:Value) (ns:List V),Ct (fun k=>p.ownBlock=some k\/low w1 k) W u ns->(∀g,u.ownBlock=some g->w1.heap.size<=g)->Ct (fun k=>z.ownBlock=some k\/low w1 k) (wA.setCell ⟨B,6,none⟩ z) u ns:=by
 have G:=AF (AB W none) o;have I:=h.grown G;have aa:∀k,p.ownBlock=some k->Bn (W.alloc o) k 27:=fun k e=>Own.AO (Bl G N) e
 have ab:Y wA B 32 #[.int .i64 14,.string ⟨#[]⟩,.bool false,.slice none 0 0,b,.slice none 0 0,p,.slice none 0 0]:=Y.Bo I.box O (fun e=>Aj ((aa _ e).uniq I.box.AO) (by decide));have ap:Y wA A 32 #[.int .i64 0,.string ⟨#[]⟩,.bool false,.slice none 0 0,.slice none 0 0,.slice none 0 0,.slice none 0 0,.slice none 0 0]:=Y.Bo I.res O (fun e=>Aj ((aa _ e).uniq I.res.AO) (by decide));have ah:∀k,p.ownBlock=some k->w.heap.size<=k:=fun k hk=>by obtain⟨_,_,af,_⟩:=h.AT;exact Nat.not_lt.1 (af k hk)
 have aq:∀k,z.ownBlock=some k->w.heap.size<=k:=fun k hk=>by
  rcases X k hk with e|e
  ·exact ah k e
  ·rw[BW]at e;have:=h.gr.size;omega
 have ac:Az (fun k=>p.ownBlock=some k\/k=B) (W.alloc o) (wA.setCell ⟨B,6,none⟩ z):=Az.setCell (Az.mono O fun k _ e=> .inl e) (p:=⟨B,6,none⟩) (.inl (.inr rfl)) z;have ai:∀k,(p.ownBlock=some k\/k=B)->w.heap.size<=k:=fun k e=>by
  rcases e with e|rfl
  ·exact ah k e
  ·exact h.hB
 have ad:∀ {e:TypeId} {s n k:Nat} {v:Value} {xs:List Value},Own W e s v n xs k->e≠27->e≠32->Own (wA.setCell ⟨B,6,none⟩ z) e s v n xs k:=fun F N ar=>(Bl G F).Bo ac fun g ae e=>by
  rcases e with e|rfl
  ·exact N (((Bl G F).AO ae).uniq (aa g e))
  ·exact ar (((Bl G F).AO ae).uniq I.box.AO)
 have aj:∀(u:Value) (ns:List V),Ct (fun k=>p.ownBlock=some k\/low w1 k) W u ns->(∀g,u.ownBlock=some g->w1.heap.size<=g)->Ct (fun k=>z.ownBlock=some k\/low w1 k) (wA.setCell ⟨B,6,none⟩ z) u ns:=fun u ns M ae=>(SO M o aa O X).RJ (q:=⟨B,6,none⟩) (fun e=>Nat.not_lt.2 (ae _ e) h.lB) ab.AO _
 obtain⟨au,aw,ax⟩:=h.parts;refine⟨ab,⟨(h.st.grown G).Bo ac (fun k e=>by have:=ai k e;have:=h.E8;omega),Y.AW ab 6 _,Y.Bi ap (p:=⟨B,6,none⟩) h.ne _,h.hA,h.hB,h.ne,h.lA,h.lB,ad h.words (by decide) (by decide),h.nb,⟨J++[K],?_,fun k hk e=>Aj e (Nat.not_lt.2 (aq k hk)),fun i ag=>?_⟩,⟨au,ad aw (by decide) (by decide),fun i ag=>by obtain⟨u,M,X,ak⟩:=ax i ag;exact⟨u,M,aj u _ X ak,ak⟩⟩,h.nv,h.kb,F7 h.gr o ac ai,h.E8,E0 I.ls ac.size⟩,aj⟩
 ·rw[BG,Cj];exact F.Bi (p:=⟨B,6,none⟩) (fun e=>Aj ((Own.AO F e).uniq ab.AO) (by decide)) _
 ·rw[BG,Cj]at ag;have ay:=N.len;by_cases al:i<P.length
  ·obtain⟨u,M,hs,af⟩:=am i al;refine⟨u,by rw[Gx (by omega)];exact M,?_,af⟩;rw[List.getElem_append_left al];exact ad hs (by decide) (by decide)
  ·obtain rfl:i=P.length:=by omega
   refine⟨K,by rw[Ig (by omega),show P.length-J.length=0 by omega];rfl,?_,fun k hk e=>Aj e (Nat.not_lt.2 (ao k hk))⟩;rw[List.getElem_append_right (BN _)];simp only[Nat.sub_self,List.getElem_cons_zero];exact ad an (by decide) (by decide)
theorem Ey.Mb(h:Ey w w1 W rb T st A B ss P ps b p v){G:List Value}(K:Own W 22 1 v ps.length G 0)(ac:∀i (h:i<ps.length),∃u,G[i]? =some u/\Ct (fun k=>p.ownBlock=some k\/low w1 k) W u ps[i]/\ ∀g,u.ownBlock=some g->w1.heap.size<=g)(o:Obj){ms:List V}(O:Ct (fun k=>p.ownBlock=some k\/low w1 k) W u ms)(hk:KB ms)(ad:∀g,u.ownBlock=some g->w1.heap.size<=g)
  (M:Own wA 22 1 vA (ps.length+1) (G++[u]) 0) (z:Az (fun k=>v.ownBlock=some k) (W.alloc o) wA) (ae:∀k,vA.ownBlock=some k->v.ownBlock=some k\/(W.alloc o).heap.size<=k):Ey w w1 wA rb T st A B ss P (ps++[ms]) b p vA:=by
 have F:=AF (AB W none) o;have I:=h.grown F;have J:∀k,v.ownBlock=some k->Bn (W.alloc o) k 22:=fun k e=>Own.AO (Bl F K) e
 have X:∀ {e:TypeId} {s n k:Nat} {v:Value} {xs:List Value},Own W e s v n xs k->e≠22->Own wA e s v n xs k:=fun M K=>(Bl F M).Bo z fun g af e=>K (((Bl F M).AO af).uniq (J g e))
 obtain⟨ag,ah,ai,aj⟩:=h.AT;refine⟨(h.st.grown F).Bo z (fun k e=>by have:=h.nv k e;have:=h.E8;omega),Y.Bo I.box z (fun e=>Aj ((J _ e).uniq I.box.AO) (by decide)),Y.Bo I.res z (fun e=>Aj ((J _ e).uniq I.res.AO) (by decide)),h.hA,h.hB,h.ne,h.lA,h.lB,X h.words (by decide),h.nb,⟨ag,X ah (by decide),ai,fun i aa=>by obtain⟨u,O,hs,ak⟩:=aj i aa;exact⟨u,O,X hs (by decide),ak⟩⟩,⟨G++[u],by rw[BG,Cj];exact M,fun i aa=>?_⟩,fun k hk=>?_,fun m N=>?_,F7 h.gr o z h.nv,h.E8,E0 I.ls z.size⟩
 ·rw[BG,Cj]at aa;have ap:=K.len;by_cases ab:i<ps.length
  ·obtain⟨al,am,an,ao⟩:=ac i ab;refine⟨al,by rw[Gx (by omega)];exact am,?_⟩;rw[List.getElem_append_left ab];exact⟨(an.grown F).US z J,ao⟩
  ·obtain rfl:i=ps.length:=by omega
   refine⟨u,by rw[Ig (by omega),show ps.length-G.length=0 by omega];rfl,?_⟩;rw[List.getElem_append_right (BN _)];simp only[Nat.sub_self,List.getElem_cons_zero];exact⟨(O.grown F).US z J,ad⟩
 ·rcases ae k hk with e|e
  ·exact h.nv k e
  ·rw[BW]at e;have:=h.gr.size;omega
 ·rw[ID,DA]at N;rcases N with N|rfl
  ·exact h.kb m N
  ·exact hk
end
def YQ(w0 w':World)(n:V)(ps:List (List V))(v:Value):Prop:=∃b p h,v=.tuple #[.agg #[.int .i64 14,.string ⟨#[]⟩,.bool false,.slice none 0 0,b,.slice none 0 0,p,.slice none 0 0],h]/\Bk (low w0) w' (.slice none 0 0) b (.slice none 0 0) p (.slice none 0 0) n/\n= { kind:=14,words:=n.words,AT:=n.AT } /\DY w0 w' h ps/\(∀ms∈ps,KB ms)/\BP ps<=10000/\ps.length<=600
def VM(rb:Nat)(T:List AY)(d h:Nat)(w:World)(R:PR V):Ending->World->Prop:=fun e w'=> ∃v n ps st,e=.returned v/\YQ w w' n ps v/\BU w' rb T st/\w.grownBy w' (some rb)/\Cn R d h (BP ps) (fun z=> .ok { n with kids:=(AQ ps).2 } z (AQ ps).1) st
theorem Ey.fin{w w1 W:World}{rb A B d M:Nat}{T:List AY}{st:DS}{ss:List (List UInt8)}{P:List (List (List UInt8))}{ps:List (List V)}{b p v:Value}{R:PR V}(h:Ey w w1 W rb T st A B ss P ps b p v)(N:w.heap.size<=w1.heap.size)(hs:Cn R d M (BP ps) (fun aa=> .ok { kind:=14,words:=ss,AT:=P,kids:=(AQ ps).2 } aa (AQ ps).1) st)(I:BP ps<=10000)(ab:ps.length<=600):
  Y (Cl W A (.int .i64 14) (.string ⟨#[]⟩) (.bool false) (.slice none 0 0) b (.slice none 0 0) p (.slice none 0 0)) A 32 #[.int .i64 14,.string ⟨#[]⟩,.bool false,.slice none 0 0,b,.slice none 0 0,p,.slice none 0 0]/\
  VM rb T d M w R (.returned (.tuple #[.agg #[.int .i64 14,.string ⟨#[]⟩,.bool false,.slice none 0 0,b,.slice none 0 0,p,.slice none 0 0],v])) (Cl W A (.int .i64 14) (.string ⟨#[]⟩) (.bool false) (.slice none 0 0) b (.slice none 0 0) p (.slice none 0 0)):=by
 have z:=F8 W A (.int .i64 14) (.string ⟨#[]⟩) (.bool false) (.slice none 0 0) b (.slice none 0 0) p (.slice none 0 0);have ac:=h.st.Bo z (fun k e=>by subst e;have:=h.hA;have:=h.E8;omega);have ad:w.grownBy (Cl W A (.int .i64 14) (.string ⟨#[]⟩) (.bool false) (.slice none 0 0) b (.slice none 0 0) p (.slice none 0 0)) (some rb):=
  ⟨z.os.trans h.gr.os,z.tape.trans h.gr.tape,z.output.trans h.gr.output,E0 h.gr.size z.size,fun k hk ae=>(z.block k (DZ hk h.gr.size) (fun e=>by have:=h.hA;omega)).trans (h.gr.block k hk ae)⟩
 have G:∀ {e:TypeId} {s n k:Nat} {v:Value} {xs:List Value},Own W e s v n xs k->e≠32->Own (Cl W A (.int .i64 14) (.string ⟨#[]⟩) (.bool false) (.slice none 0 0) b (.slice none 0 0) p (.slice none 0 0)) e s v n xs k:=fun O I=>O.Bo z fun g F e=>by subst e;exact I ((O.AO F).uniq h.res.AO)
 obtain⟨af,ag,ah,ai⟩:=h.AT;obtain⟨aj,ak,al⟩:=h.parts;have am:YQ w (Cl W A (.int .i64 14) (.string ⟨#[]⟩) (.bool false) (.slice none 0 0) b (.slice none 0 0) p (.slice none 0 0)) { kind:=14,words:=ss,AT:=P } ps (.tuple #[.agg #[.int .i64 14,.string ⟨#[]⟩,.bool false,.slice none 0 0,b,.slice none 0 0,p,.slice none 0 0],v]):=by
  refine⟨b,p,v,rfl,⟨Own.nil _ _ _ _,G h.words (by decide),Own.nil _ _ _ _,⟨af,G ag (by decide),ah,fun i J=>by obtain⟨u,K,hs,an⟩:=ai i J;exact⟨u,K,G hs (by decide),an⟩⟩,Own.nil _ _ _ _,fun k hk=>(by cases hk),fun k hk e=>Aj e (Nat.not_lt.2 (h.nb k hk)),fun k hk=>(by cases hk),fun k hk=>(by cases hk)⟩,rfl,⟨aj,G ak (by decide),fun i J=>?_⟩,h.kb,I,ab⟩;obtain⟨u,K,ao,X⟩:=al i J;refine⟨u,K,?_,fun g F=>E0 N (X g F)⟩;have ap:Ct (low w) W u ps[i]:=ao.mono fun k hk=> .inr (DZ hk N)
  obtain⟨aq,ar,au⟩:=ap;refine⟨aq,ar.Bo z (fun g F e=>by subst e;have:=X _ F;have:=h.lA;omega),fun j aw=>?_⟩;obtain⟨x,y,r,ax,k,e,ay⟩:=au j aw;have az:Fr (fun _=>True) W (Cl W A (.int .i64 14) (.string ⟨#[]⟩) (.bool false) (.slice none 0 0) b (.slice none 0 0) p (.slice none 0 0)):=Az.mono z fun k _ e=>⟨trivial,.inr (by subst e;exact h.res.AO)⟩
  exact⟨x,y,r,ax,k,e,ay.fr az⟩
 exact⟨Y.AW (Y.AW (Y.AW (Y.AW (Y.AW (Y.AW (Y.AW (Y.AW h.res 0 _) 1 _) 2 _) 3 _) 4 _) 5 _) 6 _) 7 _,_,_,_,_,rfl,am,ac,ad,hs⟩
end Go.Proofs.YtdhfhphbkfgamaaGreat
