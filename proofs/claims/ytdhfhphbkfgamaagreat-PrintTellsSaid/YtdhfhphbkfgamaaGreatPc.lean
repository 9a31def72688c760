/- A part. -/
import Derived.Test.YtdhfhphbkfgamaaGreatPa
import Derived.Test.YtdhfhphbkfgamaaGreatXe
set_option maxRecDepth 100000
set_option linter.all false
namespace Go.Proofs.YtdhfhphbkfgamaaGreat
open Go.RowKit Lx Proofs.Tryz
def Dd(w:World)(v:Value)(l:List (List UInt8)):Prop:=Own w 9 1 v l.length (l.map sv) 0
def He(w:World)(v:Value)(l:List Int):Prop:=Own w 3 1 v l.length (l.map (Value.int .i64)) 0
def Rd.cells(r:Rd):List Value:=[.int .i64 r.fd,sv r.op,sv r.wd]
def Ji(w:World)(v:Value)(l:List Rd):Prop:=Own w 34 3 v l.length (l.flatMap Rd.cells) 0
def Av(av:Nat->Prop)(v:Value):Prop:=∀b,v.ownBlock=some b-> ¬av b
def NH(av:Nat->Prop)(w:World)(v:Value)(l:List (List (List UInt8))):Prop:=∃h,Own w 27 1 v l.length h 0/\Av av v/\ ∀i (z:i<l.length),∃u,h[i]? =some u/\Dd w u l[i]/\Av av u
structure Bk(av:Nat->Prop)(w:World)(a b r p k:Value)(n:V):Prop where
 AZ:Dd w a n.AZ
 words:Dd w b n.words
 DJ:Ji w r n.AK
 AT:NH av w p n.AT
 kids:He w k n.kids
 ha:Av av a
 hb:Av av b
 hr:Av av r
 hk:Av av k
def AU(n:V)(a b r p k:Value):List Value:=[.int .i64 n.kind,sv n.name,.bool n.A7,a,b,r,p,k]
def Ct(av:Nat->Prop)(w:World)(v:Value)(ns:List V):Prop:=∃h,Own w 32 8 v ns.length h 0/\ ∀i (z:i<ns.length),∃a b r p k,(h.drop (i*8)).take 8=AU ns[i] a b r p k/\Bk av w a b r p k ns[i]
def Bn(w:World)(k:Nat)(t:TypeId):Prop:=∃h z,w.heap[k]? =some (.cells h t z)
def Yh(base:Nat->Prop)(w:World)(k:Nat):Prop:=base k/\(Bn w k 65\/Bn w k 32)
def Fr(base:Nat->Prop)(w w':World):Prop:=Az (Yh base w) w w'
section
variable {av:Nat->Prop}{base:Nat->Prop}{w w' a b c:World}
theorem Fr.refl(base:Nat->Prop)(w:World):Fr base w w:=Az.refl _ w
theorem Fr.AL(h:a.grownBy b none):Fr base a b:=Az.AL h (fun k hk=>by cases hk)
theorem Bn.uniq{k:Nat}{s t:TypeId}(h:Bn w k s)(g:Bn w k t):s=t:=by
 obtain⟨z,F,h⟩:=h;obtain⟨G,I,g⟩:=g;rw[h]at g;injection g with g;injection g with _ g _
theorem Fr.trans(F:Fr base a b)(g:Fr base b c):Fr base a c:=
 Az.trans F g fun i K G=>by
  apply Classical.byContradiction;intro I;refine I ⟨G.1,?_⟩;have J:=Az.block F i K I;rcases G.2 with⟨h,z,e⟩|⟨h,z,e⟩
  ·exact .inl ⟨h,z,by rw[<-J];exact e⟩
  ·exact .inr ⟨h,z,by rw[<-J];exact e⟩
theorem Fr.size(h:Fr base a b):a.heap.size<=b.heap.size:=Az.size h
theorem Own.AO{e:TypeId}{s n k:Nat}{v:Value}{xs:List Value}(z:Own w e s v n xs k){g:Nat}(h:v.ownBlock=some g):Bn w g e:=by
 rcases z.2 with⟨rfl,_⟩|⟨J,K,L,F,G,rfl,I,_⟩
 ·simp[Value.ownBlock]at h
 ·simp[Value.ownBlock]at h;subst h;exact⟨F,G,I⟩
theorem Y.AO{g:Nat}{t:TypeId}{h:Array Value}(z:Y w g t h):Bn w g t:=⟨h,(0,0),z⟩
theorem Fr.own(F:Fr base a b){e:TypeId}{s n k:Nat}{v:Value}{xs:List Value}(h:Own a e s v n xs k)(G:e≠65)(I:e≠32):Own b e s v n xs k:=
 h.Bo F fun g z J=>J.2.elim (fun x=>G ((h.AO z).uniq x)) (fun x=>I ((h.AO z).uniq x))
theorem Fr.BF(F:Fr base a b){g:Nat}{t:TypeId}{z:Array Value}(h:Y a g t z)(G:t≠65)(I:t≠32):Y b g t z:=
 Y.Bo h F fun J=>J.2.elim (fun x=>G (h.AO.uniq x)) (fun x=>I (h.AO.uniq x))
theorem Fr.low(z:Fr base a b){g:Nat}{t:TypeId}{h:Array Value}(F:Y a g t h)(G:¬base g):Y b g t h:=
 Y.Bo F z fun I=>G I.1
theorem Fr.below(h:Fr base a b)(z:∀k,k<a.heap.size-> ¬base k):a.grownBy b none:=Az.grown h fun k hk F=>z k hk F.1
theorem Fr.set(h:Fr base a b){p:Addr}(z:base p.block)(F:Bn b p.block 65\/Bn b p.block 32)(u:Value):Fr base a (b.setCell p u):=
 h.trans (Az.setCell (Az.refl _ b) (.inl ⟨z,F⟩) u)
theorem Fr.new(h:Fr base a b){p:Addr}(z:a.heap.size<=p.block)(u:Value):Fr base a (b.setCell p u):=Az.setCell h (.inr z) u
theorem Fr.alloc(h:Fr base a b)(o:Obj):Fr base a (b.alloc o):=Az.alloc h o
theorem Fr.drew(h:Fr base a b):Fr base a b.drew:=Az.drew h
theorem Fr.drewN(h:Fr base a b)(n:Nat):Fr base a (b.drewN n):=Az.drewN h n
theorem Dd.fr(h:Fr base a b){v:Value}{l:List (List UInt8)}(z:Dd a v l):Dd b v l:=h.own z (by decide) (by decide)
theorem He.fr(h:Fr base a b){v:Value}{l:List Int}(z:He a v l):He b v l:=h.own z (by decide) (by decide)
theorem Ji.fr(h:Fr base a b){v:Value}{l:List Rd}(z:Ji a v l):Ji b v l:=h.own z (by decide) (by decide)
theorem NH.fr(h:Fr base a b){v:Value}{l:List (List (List UInt8))}(z:NH av a v l):NH av b v l:=by
 obtain⟨F,G,I,J⟩:=z;exact⟨F,h.own G (by decide) (by decide),I,fun i K=>by obtain⟨u,L,hs,M⟩:=J i K;exact⟨u,L,hs.fr h,M⟩⟩
theorem Bk.fr(z:Fr base a b){x y r p k:Value}{n:V}(h:Bk av a x y r p k n):Bk av b x y r p k n:=⟨h.AZ.fr z,h.words.fr z,h.DJ.fr z,h.AT.fr z,h.kids.fr z,h.ha,h.hb,h.hr,h.hk⟩
theorem Jr{S:Nat->Prop}(h:Az S a b)(z:∀k,S k->av k){e:TypeId}{s n k:Nat}{v:Value}{xs:List Value}(F:Own a e s v n xs k)(G:Av av v):Own b e s v n xs k:=F.Bo h fun g I hs=>G g I (z g hs)
theorem Bk.Bo{S:Nat->Prop}(z:Az S a b)(F:∀k,S k->av k){x y r p k:Value}{n:V}(h:Bk av a x y r p k n):Bk av b x y r p k n:=by
 refine⟨Jr z F h.AZ h.ha,Jr z F h.words h.hb,Jr z F h.DJ h.hr,?_,Jr z F h.kids h.hk,h.ha,h.hb,h.hr,h.hk⟩;obtain⟨J,K,G,L⟩:=h.AT;exact⟨J,Jr z F K G,G,fun i M=>by obtain⟨u,N,hs,I⟩:=L i M;exact⟨u,N,Jr z F hs I,I⟩⟩
theorem Av.mono{h:Nat->Prop}(z:∀k,h k->av k){v:Value}(F:Av av v):Av h v:=fun b G hk=>F b G (z b hk)
theorem Bk.mono{F:Nat->Prop}(z:∀k,F k->av k){x y r p k:Value}{n:V}(h:Bk av a x y r p k n):Bk F a x y r p k n:=by
 refine⟨h.AZ,h.words,h.DJ,?_,h.kids,h.ha.mono z,h.hb.mono z,h.hr.mono z,h.hk.mono z⟩;obtain⟨G,I,J,K⟩:=h.AT;exact⟨G,I,J.mono z,fun i L=>by obtain⟨u,M,hs,N⟩:=K i L;exact⟨u,M,hs,N.mono z⟩⟩
theorem Av.more{v:Value}(z:Av av v){e:TypeId}{s n k:Nat}{xs:List Value}(F:Own a e s v n xs k){S:Nat->Prop}(G:∀k,S k->a.heap.size<=k):Av (fun k=>av k\/S k) v:=fun b h hk=>by
 rcases hk with hk|hk
 ·exact z b h hk
 ·have I:=F.lt h;have J:=G b hk;omega
theorem Bk.more{x y r p k:Value}{n:V}(h:Bk av a x y r p k n){S:Nat->Prop}(z:∀k,S k->a.heap.size<=k):Bk (fun k=>av k\/S k) a x y r p k n:=by
 refine⟨h.AZ,h.words,h.DJ,?_,h.kids,h.ha.more h.AZ z,h.hb.more h.words z,h.hr.more h.DJ z,h.hk.more h.kids z⟩;obtain⟨G,F,I,J⟩:=h.AT;exact⟨G,F,I.more F z,fun i K=>by obtain⟨u,L,hs,M⟩:=J i K;exact⟨u,L,hs,M.more hs z⟩⟩
theorem Ct.mono{h:Nat->Prop}(z:∀k,h k->av k){v:Value}{ns:List V}(F:Ct av a v ns):Ct h a v ns:=by
 obtain⟨G,I,J⟩:=F;exact⟨G,I,fun i K=>by obtain⟨x,y,r,p,k,e,L⟩:=J i K;exact⟨x,y,r,p,k,e,L.mono z⟩⟩
theorem Ct.more{v:Value}{ns:List V}(h:Ct av a v ns){S:Nat->Prop}(z:∀k,S k->a.heap.size<=k):Ct (fun k=>av k\/S k) a v ns:=by
 obtain⟨F,G,I⟩:=h;exact⟨F,G,fun i J=>by obtain⟨x,y,r,p,k,e,K⟩:=I i J;exact⟨x,y,r,p,k,e,K.more z⟩⟩
theorem Bl(z:a.grownBy b none){e:TypeId}{s n k:Nat}{v:Value}{xs:List Value}(h:Own a e s v n xs k):Own b e s v n xs k:=h.Bo (Az.AL z (fun k hk=>by cases hk):Az EH a b) (fun _ _ h=>h)
theorem Ct.grown(h:a.grownBy b none){v:Value}{ns:List V}(z:Ct av a v ns):Ct av b v ns:=by
 obtain⟨F,G,I⟩:=z;exact⟨F,Bl h G,fun i J=>by obtain⟨x,y,r,p,k,e,K⟩:=I i J;exact⟨x,y,r,p,k,e,K.fr (base:=fun _=>False) (Fr.AL h)⟩⟩
theorem Ct.nil(av:Nat->Prop)(w:World):Ct av w (.slice none 0 0) []:=⟨[],Own.nil _ _ _ _,fun i h=>Aj h (by simp)⟩
theorem AH{o:Nat}{g:Nat}{v:Value}(h:w.grownBy w' none)(z:g<w.heap.size)(F:w.cell? ⟨g,o,none⟩=some v):w'.cell? ⟨g,o,none⟩=some v:=
 (World.cell?_of_block (h.block g z (by simp))).trans F
end
def NN(t:AY):Prop:=t.t.length<=4096/\(t.k=3-> ∃c,t.t=[c]/\48<=c.toNat/\c.toNat<=57)
structure Lo(base:Nat->Prop)(w:World)(rb:Nat):Prop where
 at_:base rb
 up:∀k,w.heap.size<=k->base k
theorem Lo.size{base:Nat->Prop}{w w':World}{rb:Nat}(h:Lo base w rb)(hs:w.heap.size<=w'.heap.size):Lo base w' rb:=⟨h.at_,fun k hk=>h.up k (E0 hs hk)⟩
structure CB(av:Nat->Prop)(base:Nat->Prop)(w:World)(rb:Nat)(vt vn:Value)(ts:List AY)(ns:List V)(d:Nat):Prop where
 BF:Y w rb 65 #[vt,vn,.int .i64 d]
 tok:Own w 69 3 vt ts.length (Jo ts) 0
 NT:Ct av w vn ns
 new:∀b,vn.ownBlock=some b->base b
 lo:Lo base w rb
 Ak:Good ts
 EG:ns.length+10*ts.length<=100000
 dep:d<=26
 Lc:∀t∈ts,NN t
section
variable {av:Nat->Prop}{base:Nat->Prop}{rb d:Nat}{w w':World}{vt vn:Value}{ts:List AY}{ns:List V}
theorem CB.grown(h:CB av base w rb vt vn ts ns d)(z:w.grownBy w' none):CB av base w' rb vt vn ts ns d:=
 ⟨Y.grown h.BF z (by simp),Bl z h.tok,h.NT.grown z,h.new,h.lo.size z.size,h.Ak,h.EG,h.dep,h.Lc⟩
theorem CB.cells(h:CB av base w rb vt vn ts ns d):w.cell? ⟨rb,0,none⟩=some vt/\w.cell? ⟨rb,1,none⟩=some vn/\w.cell? ⟨rb,2,none⟩=some (.int .i64 d):=⟨Y.cell h.BF 0,Y.cell h.BF 1,Y.cell h.BF 2⟩
theorem Pp{v:Value}{T:List AY}(I:Own w 69 3 v T.length (Jo T) 0)(J:0<T.length):∃g h z,v=.slice (some ⟨g,h,none⟩) T.length z/\T.length<=z/\g<w.heap.size/\ ∀i (F:i<T.length),w.cell? ⟨g,h+i*3,none⟩=some (.int .i64 (T[i]).k)/\w.cell? ⟨g,h+i*3+1,none⟩=some (.string ⟨(T[i]).t.toArray⟩)/\w.cell? ⟨g,h+i*3+2,none⟩=some (.int .i64 (T[i]).a):=by
 obtain⟨g,h,z,rfl,K,_,L,G⟩:=I.some_ J;refine⟨g,h,z,rfl,K,L,fun i F=>⟨?_,?_,?_⟩⟩
 ·have:=G (i*3) (by omega);rw[this,show i*3=i*3+0 from rfl,Ik T i 0 F (by omega)];rfl
 ·have:=G (i*3+1) (by omega);rw[Nat.add_assoc,this,Ik T i 1 F (by omega)];rfl
 ·have:=G (i*3+2) (by omega);rw[Nat.add_assoc,this,Ik T i 2 F (by omega)];rfl
theorem CB.head(F:CB av base w rb vt vn ts ns d):∃t r g h z,ts=t::r/\vt=.slice (some ⟨g,h,none⟩) ts.length z/\ts.length<=z/\g<w.heap.size/\w.cell? ⟨g,h,none⟩=some (.int .i64 t.k)/\w.cell? ⟨g,h+1,none⟩=some (.string ⟨t.t.toArray⟩)/\w.cell? ⟨g,h+2,none⟩=some (.int .i64 t.a):=by
 obtain⟨t,r,rfl⟩:=F.Ak.ne;obtain⟨g,h,z,rfl,I,J,K⟩:=Pp F.tok (by simp);have G:=K 0 (by simp);rw[Nat.zero_mul,Nat.add_zero]at G;exact⟨t,r,g,h,z,rfl,rfl,I,J,G⟩
end
def CQ(av:Nat->Prop)(base:Nat->Prop)(w:World)(rb:Nat)(ts:List AY)(ns:List V)(d:Nat):Prop:=∃vt vn,CB av base w rb vt vn ts ns d
def GF(a k:Int):PanicEntry:= { v:=.iface 67 (.agg #[.int .i64 a,.int .i64 k]),recovered:=false }
def Am{α:Type}(h:World->α->Value->Prop)(av:Nat->Prop)(base:Nat->Prop)(w:World)(rb d:Nat):PR α->Ending->World->Prop
 | .ok x ts ns,e,w'=> ∃v,e=.returned v/\h w' x v/\CQ av base w' rb ts ns d/\Fr base w w'
 | .bad a k,e,w'=>e=.panicked [GF a k]/\Fr base w w'
def EU(av:Nat->Prop)(base:Nat->Prop)(w:World)(rb:Nat)(vn:Value)(ts:List AY)(ns:List V)(d:Nat):Prop:=∃vt,CB av base w rb vt vn ts ns d
def Br{α:Type}(h:World->α->Value->Prop)(av:Nat->Prop)(base:Nat->Prop)(w:World)(rb:Nat)(vn:Value)(d:Nat):PR α->Ending->World->Prop
 | .ok x ts ns,e,w'=> ∃v,e=.returned v/\h w' x v/\EU av base w' rb vn ts ns d/\w.grownBy w' (some rb)
 | .bad a k,e,w'=>e=.panicked [GF a k]/\w.grownBy w' (some rb)
section
variable {av:Nat->Prop}{base:Nat->Prop}{rb d:Nat}{w w':World}{vt vn:Value}{ts:List AY}{ns:List V}
theorem CB.Kt(h:CB av base w rb vt vn ts ns d)(z:w.grownBy w' (some rb)):Fr base w w':=
 Az.AL z fun k hk=>by
  injection hk with hk;subst hk;exact⟨h.lo.at_,.inl h.BF.AO⟩
theorem Br.g{α:Type}{z:World->α->Value->Prop}{r:PR α}{e:Ending}(F:CB av base w rb vt vn ts ns d)(h:Br z av base w rb vn d r e w'):Am z av base w rb d r e w':=by
 cases r with
 |ok x M N=>
  obtain⟨v,G,I,⟨J,K⟩,L⟩:=h;exact⟨v,G,I,⟨J,vn,K⟩,F.Kt L⟩
 |bad a k=>exact⟨h.1,F.Kt h.2⟩
theorem CB.mono{z:Nat->Prop}(F:∀k,z k->av k)(h:CB av base w rb vt vn ts ns d):CB z base w rb vt vn ts ns d:=
 ⟨h.BF,h.tok,h.NT.mono F,h.new,h.lo,h.Ak,h.EG,h.dep,h.Lc⟩
theorem CB.RX{F:Nat->Prop}(z:∀k,base k->F k)(h:CB av base w rb vt vn ts ns d):CB av F w rb vt vn ts ns d:=
 ⟨h.BF,h.tok,h.NT,fun b G=>z b (h.new b G),⟨z _ h.lo.at_,fun k hk=>z k (h.lo.up k hk)⟩,h.Ak,h.EG,h.dep,h.Lc⟩
theorem Fr.RX{h:Nat->Prop}{a b:World}(F:∀k,base k->h k)(G:Fr base a b):Fr h a b:=Az.mono G fun _ _ z=>⟨F _ z.1,z.2⟩
theorem CB.more(h:CB av base w rb vt vn ts ns d){S:Nat->Prop}(z:∀k,S k->w.heap.size<=k):CB (fun k=>av k\/S k) base w rb vt vn ts ns d:=
 ⟨h.BF,h.tok,h.NT.more z,h.new,h.lo,h.Ak,h.EG,h.dep,h.Lc⟩
theorem CB.Bo(h:CB av base w rb vt vn ts ns d){S:Nat->Prop}(z:Az S w w')(J:∀k,S k->av k)(F:∀k,S k-> ¬Bn w k 65/\ ¬Bn w k 69/\ ¬Bn w k 32):CB av base w' rb vt vn ts ns d:=by
 refine⟨Y.Bo h.BF z (fun e=>(F _ e).1 h.BF.AO),h.tok.Bo z (fun g G e=>(F _ e).2.1 (h.tok.AO G)),?_,h.new,h.lo.size (Az.size z),h.Ak,h.EG,h.dep,h.Lc⟩;obtain⟨K,I,L⟩:=h.NT;exact⟨K,I.Bo z (fun g G e=>(F _ e).2.2 (I.AO G)),fun i M=>by obtain⟨x,y,r,p,k,e,N⟩:=L i M;exact⟨x,y,r,p,k,e,N.Bo z J⟩⟩
theorem CB.back{F:World}{G:Value}{h:List AY}(z:CB av base w rb vt vn ts ns d)(I:w.grownBy F (some rb))(K:Y F rb 65 #[G,vn,.int .i64 d])(L:Own F 69 3 G h.length (Jo h) 0)(M:Good h)(N:ns.length+10*h.length<=100000)(O:∀t∈h,NN t):CB av base F rb G vn h ns d:=by
 refine⟨K,L,?_,z.new,z.lo.size I.size,M,N,z.dep,O⟩;obtain⟨W,J,X⟩:=z.NT;have aa:Az (fun k=>k=rb) w F:=Az.AL I (fun k hk=>by injection hk with hk;exact hk.symm);refine⟨W,J.Bo aa (fun g ab e=>?_),fun i ac=>by obtain⟨x,y,r,p,k,e,ad⟩:=X i ac;exact⟨x,y,r,p,k,e,ad.fr (z.Kt I)⟩⟩;have:=(J.AO ab).uniq (e▸z.BF.AO);exact Aj this (by decide)
end
def Cg:World->Int->Value->Prop:=fun _ x v=>v=.int .i64 x
def Cr:World->Unit->Value->Prop:=fun _ _ v=>v=.tuple #[]
def QA:World->List UInt8->Value->Prop:=fun _ s v=>v=sv s
def YZ:World->List Rd->Value->Prop:=fun w l v=>Ji w v l
def N4(av:Nat->Prop):World->V->Value->Prop:=fun w n v=> ∃a b r p k,v=.agg (AU n a b r p k).toArray/\Bk av w a b r p k n
end Go.Proofs.YtdhfhphbkfgamaaGreat
