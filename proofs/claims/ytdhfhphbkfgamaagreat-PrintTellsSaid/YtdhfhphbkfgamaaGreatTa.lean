/- A part. -/
import Derived.Lib.Builder
import Derived.Lib.AppendStr
import Derived.Lib.UnsafeStr
import Derived.Deep.CutBlock
import Derived.Test.YtdhfhphbkfgamaaGreatPc
set_option maxRecDepth 100000
set_option linter.all false
set_option maxHeartbeats 0
namespace Go.Proofs.YtdhfhphbkfgamaaGreat
open Lx Proofs.Tryz
def NP(b s:List UInt8):List UInt8:=if b.length<=4096 then b++s.take 4097 else b
def BQ(b:List UInt8)(l:List (List UInt8)):List UInt8:=l.foldl NP b
theorem A8(b:List UInt8)(l m:List (List UInt8)):BQ b (l++m)=BQ (BQ b l) m:=List.foldl_append ..
theorem QB(b s:List UInt8)(l:List (List UInt8)):BQ b (s::l)=BQ (NP b s) l:=rfl
def BM:List (List UInt8)->Bool->List (List UInt8)
 |[],_=>[]
 |s::r,more=>(if more=true then [[32]]else [])++[s]++BM r true
def CA(l:List (List UInt8))(more:Bool):Bool:=more||!l.isEmpty
def QT:V:= { kind:=0 }
def Jv(l:List V)(k:Int):V:=l.getD k.toNat QT
def Cm(rec:Nat->List (List UInt8))(n:V)(i:Nat):List (List UInt8):=match n.kids[i]? with
 |some k=>if 0<=k then rec k.toNat else []
 |none=>[]
def El(l:List V)(k:Int):Bool:=if k<0 then false else
 let n:=Jv l k
 match n.kids.getLast? with
 |some m=>if n.kind=6 then(Jv l m).kind==7 else n.kind==7
 |none=>n.kind==7
def Mo(l:List V)(n:V)(i:Nat):List (List UInt8):=match n.kids[i]? with
 |some k=>if El l k=true then []else [[59]]
 |none=>[[59]]
def Bj(l:List V)(rec:Nat->List (List UInt8))(n:V)(i:Nat):List (List UInt8):=Cm rec n i++Mo l n i++[[32]]
def DH(rec:Nat->List (List UInt8))(n:V)(h:List UInt8):Nat->List (List UInt8)
 |0=>[]
 |m+1=>DH rec n h m++(if 0<m then [h]else [])++Cm rec n m
def Mh(l:List V)(n:V)(m:Nat):List (List UInt8):=if(Jv l (n.kids.getD (m-1) 0)).kind=7 then [[32]]else [[59],[32]]
def Ib(l:List V)(rec:Nat->List (List UInt8))(n:V):Nat->List (List UInt8)
 |0=>[]
 |m+1=>Ib l rec n m++(if 0<m then Mh l n m else [])++Cm rec n m
def Cs:List (List UInt8)->List UInt8
 |[]=>[]
 |[s]=>s
 |s::r=>s++[32,124,32]++Cs r
def Fm(rec:Nat->List (List UInt8))(n:V):Nat->List (List UInt8)
 |0=>[]
 |m+1=>Fm rec n m++[[32,40],Cs (n.AT.getD m []),[41]]++(match n.kids[m]? with
  |some k=>if 0<=k then [[32]]++rec k.toNat else []
  |none=>[])++[[59,59]]
def Gc(rec:Nat->List (List UInt8))(n:V):List (List UInt8):=[[99,97,115,101,32],n.words.headD [],[32,105,110]]++Fm rec n n.AT.length++[[32,101,115,97,99]]
def Dm(l:List V)(n:V):Bool:=match n.kids[2]? with
 |some k=>decide (0<=k)&&(Jv l k).kind==10&&(Jv l k).AK.isEmpty
 |none=>false
def D6(x:Rd):List UInt8:=(if 0<=x.fd/\x.fd<=9 then [UInt8.ofNat (48+x.fd.toNat)]else [])++(x.op++x.wd)
def Ap(l:List V)(rec:Nat->List (List UInt8))(n:V):List (List UInt8):=
 if n.kind=1 then BM n.AZ false++BM n.words (CA n.AZ false)
 else if n.kind=2 then [[33,32]]++Cm rec n 0
 else if n.kind=7 then Cm rec n 0++[[32,38]]
 else if n.kind=3 then DH rec n [32,124,32] n.kids.length
 else if n.kind=4 then DH rec n [32,38,38,32] n.kids.length
 else if n.kind=5 then DH rec n [32,124,124,32] n.kids.length
 else if n.kind=6 then Ib l rec n n.kids.length
 else if n.kind=8 then [[123,32]]++Bj l rec n 0++[[125]]
 else if n.kind=9 then [[40,32]]++Cm rec n 0++[[32,41]]
 else if n.kind=10 then [[105,102,32]]++Bj l rec n 0++[[116,104,101,110,32]]++Bj l rec n 1++
  (if Dm l n=true then [[101,108]]++Cm rec n 2 else if 2<n.kids.length then [[101,108,115,101,32]]++Bj l rec n 2++[[102,105]]else [[102,105]])
 else if n.kind=11\/n.kind=12 then [if n.kind=11 then [119,104,105,108,101,32]else [117,110,116,105,108,32]]++Bj l rec n 0++[[100,111,32]]++Bj l rec n 1++[[100,111,110,101]]
 else if n.kind=13 then [[102,111,114,32],n.name]++(if n.A7=true then [[32,105,110]]++BM n.words true else [])++[[59,32,100,111,32]]++Bj l rec n 0++[[100,111,110,101]]
 else if n.kind=14 then Gc rec n
 else if n.kind=15 then [n.name,[40,41,32]]++Cm rec n 0
 else []
def Bg(n:V):Bool:=if n.kind=1 then CA n.words (CA n.AZ false)else true
def Ay(l:List V):Nat->Nat->List (List UInt8)
 |0,_=>[]
 |f+1,i=>Ap l (Ay l f) (Jv l i)++BM ((Jv l i).AK.map D6) (Bg (Jv l i))
def Ef(h:List Nat)(c:Bool):List Int->Nat->Option Nat
 |[],f=>some f
 |k::r,f=>if k= -1/\c=true then Ef h c r f else if f=0\/k≠(f:Int)-1 then none else Ef h c r (h.getD (f-1) 0)
def Fs:List V->List Nat->Option (List Nat)
 |[],h=>some h
 |n::r,h=>match Ef h (n.kind==14) n.kids.reverse h.length with
  |some b=>Fs r (h++[b])
  |none=>none
def EI(l:List V):Bool:=decide (1<=l.length)&&decide (l.length<=300)&&match Fs l []with
 |some h=>h.getLastD 1==0
 |none=>false
instance:DecidableEq Rd:=fun⟨a,b,c⟩ ⟨d,e,f⟩=>decidable_of_iff (a=d/\b=e/\c=f) (by simp)
instance:DecidableEq V:=fun⟨a,b,c,d,e,f,g,h⟩ ⟨a',b',c',d',e',f',g',h'⟩=>decidable_of_iff (a=a'/\b=b'/\c=c'/\d=d'/\e=e'/\f=f'/\g=g'/\h=h') (by simp)
def E6(l:List V):List UInt8:=
 if EI l=true then
  let s:=BQ [] (Ay l l.length (l.length-1))
  if 4096<s.length then []else if(CD s).e=0/\(CD s).ns=l then s else []
 else []
def IS(l:List V):Prop:=∀i (h:i<l.length),∀k∈l[i].kids,(k= -1/\l[i].kind=14)\/(0<=k/\k<i)
theorem Jg{z:List Nat}{c:Bool}(F:∀i,i<z.length->z.getD i 0<=i):∀(I:List Int) (f b:Nat),f<=z.length->Ef z c I f=some b->b<=f/\ ∀k∈I,(k= -1/\c=true)\/(0<=k/\k<f)
 |[],f,b,_,h=>by
  injection h with h;exact⟨by omega,fun _ h=>by cases h⟩
 |k::r,f,b,M,h=>by
  rw[Ef]at h;split at h
  ·rename_i J;obtain⟨K,L⟩:=Jg F r f b M h;refine⟨K,fun G hk=>?_⟩;rw[List.mem_cons]at hk;rcases hk with rfl|hk
   ·exact .inl J
   ·exact L G hk
  ·split at h
   ·cases h
   ·rename_i J K;have L:=F (f-1) (by omega);obtain⟨O,N⟩:=Jg F r _ b (by omega) h;refine⟨by omega,fun G hk=>?_⟩;rw[List.mem_cons]at hk;rcases hk with rfl|hk
    ·exact .inr (by omega)
    ·rcases N G hk with h|h
     ·exact .inl h
     ·exact .inr (by omega)
section
open Go.RowKit Lx Proofs.Tryz
def YR(n0:Nat)(w:World)(k:Nat):Prop:=n0<=k/\(Bn w k 41\/Bn w k 5)
def PF(n0:Nat)(w w':World):Prop:=Az (YR n0 w) w w'
section
variable {n0:Nat}{w w' a b c:World}
theorem PF.refl(n0:Nat)(w:World):PF n0 w w:=Az.refl _ w
theorem PF.AL(h:a.grownBy b none):PF n0 a b:=Az.AL h (fun k hk=>by cases hk)
theorem PF.trans(F:PF n0 a b)(g:PF n0 b c):PF n0 a c:=
 Az.trans F g fun i K G=>by
  apply Classical.byContradiction;intro I;refine I ⟨G.1,?_⟩;have J:=Az.block F i K I;rcases G.2 with⟨h,z,e⟩|⟨h,z,e⟩
  ·exact .inl ⟨h,z,by rw[<-J];exact e⟩
  ·exact .inr ⟨h,z,by rw[<-J];exact e⟩
theorem PF.size(h:PF n0 a b):a.heap.size<=b.heap.size:=Az.size h
theorem PF.alloc(h:PF n0 a b)(o:Obj):PF n0 a (b.alloc o):=Az.alloc h o
theorem PF.drew(h:PF n0 a b):PF n0 a b.drew:=Az.drew h
theorem PF.new(h:PF n0 a b){p:Addr}(z:a.heap.size<=p.block)(u:Value):PF n0 a (b.setCell p u):=Az.setCell h (.inr z) u
theorem PF.below(h:PF n0 a b)(F:a.heap.size<=n0):a.grownBy b none:=Az.grown h fun k hk z=>by have:=z.1;omega
theorem PF.own(F:PF n0 a b){e:TypeId}{s n k:Nat}{v:Value}{xs:List Value}(h:Own a e s v n xs k)(G:e≠41)(I:e≠5):Own b e s v n xs k:=
 h.Bo F fun g z J=>J.2.elim (fun x=>G ((h.AO z).uniq x)) (fun x=>I ((h.AO z).uniq x))
theorem PF.BF(F:PF n0 a b){g:Nat}{t:TypeId}{z:Array Value}(h:Y a g t z)(G:t≠41)(I:t≠5):Y b g t z:=
 Y.Bo h F fun J=>J.2.elim (fun x=>G (h.AO.uniq x)) (fun x=>I (h.AO.uniq x))
end
def Rows(w:World)(v:Value)(n:Nat)(F:List Value):Prop:=∃a h,v=.slice a n h/\n<=h/\n<=9223372036854775807/\(0<n-> ∃g z,a=some ⟨g,z,none⟩/\g<w.heap.size/\ ∀j x,F[j]? =some x->w.cell? ⟨g,z+j,none⟩=some x)
def Cz(n0:Nat)(w:World)(v:Value)(n:Nat)(h:List Value):Prop:=∀w',PF n0 w w'->Rows w' v n h
theorem Cz.pf{n0:Nat}{w w':World}{v:Value}{n:Nat}{h:List Value}(z:Cz n0 w v n h)(F:PF n0 w w'):Cz n0 w' v n h:=fun G I=>z G (F.trans I)
theorem Cz.now{n0:Nat}{w:World}{v:Value}{n:Nat}{h:List Value}(z:Cz n0 w v n h):Rows w v n h:=z w (PF.refl _ _)
theorem JU{w:World}{e:TypeId}{s n:Nat}{v:Value}{h:List Value}(z:Own w e s v n h 0):Rows w v n h:=by
 obtain⟨a,J,rfl,K,aa⟩:=z.form;refine⟨a,J,rfl,K,by have:maxLen=9223372036854775807:=rfl;omega,fun L=>?_⟩;obtain⟨g,M,ab,F,_,_,N,O⟩:=z.some_ L;injection F with F _ _;refine⟨g,M,F,N,fun j x G=>?_⟩;have W:=z.len;have X:j<h.length:=by
  rcases Nat.lt_or_ge j h.length with I|I
  ·exact I
  ·rw[List.getElem?_eq_none I]at G;cases G
 rw[O j (by rw[<-W];exact X)];exact G
theorem EB{n0:Nat}{w:World}{e:TypeId}{s n:Nat}{v:Value}{h:List Value}(z:Own w e s v n h 0)(F:e≠41)(G:e≠5):Cz n0 w v n h:=fun _ I=>JU (I.own z F G)
def CW(n0:Nat)(w:World)(v:Value)(l:List (List UInt8)):Prop:=Cz n0 w v l.length (l.map sv)
def E9(n0:Nat)(w:World)(v:Value)(l:List Int):Prop:=Cz n0 w v l.length (l.map (Value.int .i64))
def Mu(n0:Nat)(w:World)(v:Value)(l:List Rd):Prop:=Cz n0 w v l.length (l.flatMap Rd.cells)
def FP(n0:Nat)(w:World)(v:Value)(l:List (List (List UInt8))):Prop:=∃h,Cz n0 w v l.length h/\ ∀i (z:i<l.length),∃u,h[i]? =some u/\CW n0 w u l[i]
structure Fk(n0:Nat)(w:World)(a b r p k:Value)(n:V):Prop where
 AZ:CW n0 w a n.AZ
 words:CW n0 w b n.words
 DJ:Mu n0 w r n.AK
 AT:FP n0 w p n.AT
 kids:E9 n0 w k n.kids
def Dj(n0:Nat)(w:World)(v:Value)(l:List V):Prop:=∃h,Cz n0 w v l.length h/\ ∀i (z:i<l.length),∃a b r p k,(∀j,j<8->h[i*8+j]? =(AU l[i] a b r p k)[j]?)/\Fk n0 w a b r p k l[i]
section
variable {n0:Nat}{w w':World}
theorem FP.pf{v:Value}{l:List (List (List UInt8))}(z:FP n0 w v l)(h:PF n0 w w'):FP n0 w' v l:=by
 obtain⟨F,G,I⟩:=z;exact⟨F,G.pf h,fun i J=>by obtain⟨u,K,hs⟩:=I i J;exact⟨u,K,hs.pf h⟩⟩
theorem Fk.pf{a b r p k:Value}{n:V}(h:Fk n0 w a b r p k n)(z:PF n0 w w'):Fk n0 w' a b r p k n:=⟨h.AZ.pf z,h.words.pf z,h.DJ.pf z,h.AT.pf z,h.kids.pf z⟩
theorem Dj.pf{v:Value}{l:List V}(z:Dj n0 w v l)(h:PF n0 w w'):Dj n0 w' v l:=by
 obtain⟨F,G,I⟩:=z;exact⟨F,G.pf h,fun i J=>by obtain⟨a,b,r,p,k,e,K⟩:=I i J;exact⟨a,b,r,p,k,e,K.pf h⟩⟩
theorem Bk.YX{av:Nat->Prop}{a b r p k:Value}{n:V}(h:Bk av w a b r p k n):Fk n0 w a b r p k n:=by
 refine⟨EB h.AZ (by decide) (by decide),EB h.words (by decide) (by decide),EB h.DJ (by decide) (by decide),?_,EB h.kids (by decide) (by decide)⟩;obtain⟨z,F,_,G⟩:=h.AT;exact⟨z,EB F (by decide) (by decide),fun i I=>by obtain⟨u,J,hs,_⟩:=G i I;exact⟨u,J,EB hs (by decide) (by decide)⟩⟩
theorem Ct.OL{av:Nat->Prop}{v:Value}{l:List V}(h:Ct av w v l):Dj n0 w v l:=by
 obtain⟨z,F,G⟩:=h;refine⟨z,EB F (by decide) (by decide),fun i I=>?_⟩;obtain⟨a,b,r,p,k,e,J⟩:=G i I;refine⟨a,b,r,p,k,fun j K=>?_,J.YX⟩;rw[<-e,List.getElem?_take_of_lt K,List.getElem?_drop]
theorem Dj.at_{v:Value}{l:List V}(I:Dj n0 w v l)(i:Nat)(J:i<l.length):∃g h G a b r p k,v=.slice (some ⟨g,h,none⟩) l.length G/\l.length<=G/\l.length<=9223372036854775807/\g<w.heap.size/\Fk n0 w a b r p k l[i]/\
  w.cell? ⟨g,h+i*8,none⟩=some (.int .i64 l[i].kind)/\w.cell? ⟨g,h+i*8+1,none⟩=some (sv l[i].name)/\w.cell? ⟨g,h+i*8+2,none⟩=some (.bool l[i].A7)/\w.cell? ⟨g,h+i*8+3,none⟩=some a/\
  w.cell? ⟨g,h+i*8+4,none⟩=some b/\w.cell? ⟨g,h+i*8+5,none⟩=some r/\w.cell? ⟨g,h+i*8+6,none⟩=some p/\w.cell? ⟨g,h+i*8+7,none⟩=some k:=by
 obtain⟨aa,K,L⟩:=I;obtain⟨ab,G,rfl,M,N,O⟩:=K.now;obtain⟨g,h,rfl,W,z⟩:=O (by omega);obtain⟨a,b,r,p,k,F,X⟩:=L i J;exact⟨g,h,G,a,b,r,p,k,rfl,M,N,W,X,z _ _ (F 0 (by omega)),by rw[Nat.add_assoc];exact z _ _ (F 1 (by omega)),by rw[Nat.add_assoc];exact z _ _ (F 2 (by omega)),by rw[Nat.add_assoc];exact z _ _ (F 3 (by omega)),by rw[Nat.add_assoc];exact z _ _ (F 4 (by omega)),by rw[Nat.add_assoc];exact z _ _ (F 5 (by omega)),by rw[Nat.add_assoc];exact z _ _ (F 6 (by omega)),by rw[Nat.add_assoc];exact z _ _ (F 7 (by omega))⟩
end
structure Fe(n0:Nat)(w:World)(pb:Nat)(v p buf:Value)(b:List UInt8):Prop where
 low:n0<=pb
 BF:Y w pb 41 #[v,p,buf]
 own:w.ownsRow n0 5 1 buf b.length (Lib.byteCells b)
 ne:buf.ownBlock≠some pb
def CC(n0:Nat)(w:World)(h:Nat)(l:List V)(b:List UInt8):Prop:=∃v p z,Fe n0 w h v p z b/\(p=.pointer none\/p=.pointer (some ⟨h,1,none⟩))/\Dj n0 w v l/\b.length<=8193
theorem Fe.form{n0:Nat}{w:World}{G:Nat}{v p z:Value}{b:List UInt8}(I:Fe n0 w G v p z b):∃J F,z=.slice J b.length F:=by
 rcases I.own.2 with⟨h,K⟩|⟨g,F,L,h,_⟩
 ·exact⟨none,0,by rw[h,K]⟩
 ·exact⟨_,_,h⟩
theorem Fe.lt{n0:Nat}{w:World}{z:Nat}{v p F:Value}{b:List UInt8}(h:Fe n0 w z v p F b):n0<=w.heap.size:=Nat.le_of_lt (Nat.lt_of_le_of_lt h.low (Y.lt h.BF))
theorem Fe.AO{n0:Nat}{w:World}{G:Nat}{v p F:Value}{b:List UInt8}(I:Fe n0 w G v p F b){g:Nat}(h:F.ownBlock=some g):n0<=g/\Bn w g 5:=by
 rcases I.own.2 with⟨z,_⟩|⟨K,L,J,z,M,N,_⟩
 ·rw[z]at h;simp[Value.ownBlock]at h
 ·rw[z]at h;simp[Value.ownBlock]at h;subst h;exact⟨by assumption,J,_,by assumption⟩
theorem XI:(prog.info? 5).map (fun i=>(i.zero,i.size,i.bytes))=some (some (.int .u8 0),1,1):=by kernel_rfl
theorem RK:(prog.info? 39).map (·.size)=some 2:=by kernel_rfl
end
section
open Go.RowKit Lx Proofs.Tryz
def C3(h:Nat):Value:=.pointer (some ⟨h,1,none⟩)
theorem Fe.cells{n0:Nat}{w:World}{h:Nat}{v p F:Value}{b:List UInt8}(z:Fe n0 w h v p F b):w.cell? ⟨h,0,none⟩=some v/\w.cell? ⟨h,1,none⟩=some p/\w.cell? ⟨h,2,none⟩=some F:=⟨Y.cell z.BF 0,Y.cell z.BF 1,Y.cell z.BF 2⟩
theorem Np(w:World)(h:Nat)(z:w.cell? ⟨h,1,none⟩=some (C3 h)):Calls prog 75 #[C3 h] w fun e w'=>e=.returned (.tuple #[])/\w'=w:=by
 obtain⟨j,F,_⟩:=Option.map_eq_some_iff.1 RK;unfold C3 at z⊢;go_enter func75,ntmps75;go_wp2
 rw[Lib.run_neq_ptr_same w _ underlying36 F];go_wp2
 go_end0
 exact⟨rfl,rfl⟩
theorem Wi:liesAt prog prog.depth 41 (3/prog.cellsOf 41) 1 39 1=true:=by kernel_rfl
theorem MZ(w:World)(h:Nat)(v x:Value)(z:Y w h 41 #[v,.pointer none,x]):Calls prog 75 #[C3 h] w fun e w'=>e=.returned (.tuple #[])/\w'=w.setCell ⟨h,1,none⟩ (C3 h):=by
 obtain⟨j,F,I⟩:=Option.map_eq_some_iff.1 RK;have J:=Y.cell z 1;have K:=Y.frozen z 1;have G:w.shape? h=some (41,3):=by
  have:w.heap[h]? =some (.cells #[v,.pointer none,x] 41 (0,0)):=z;simp[World.shape?,this]
 clear z;unfold C3;go_enter func75,ntmps75;go_wp2
 rw[Lib.run_to_unsafe w ⟨h,1,none⟩ underlying36 underlying120 F (by rw[I];decide) G (by show 1<3;omega)];simp only[Result.andThen];rw[Oper.upon_value];go_wp2
 rw[run_callFunc_extern func92 (by kernel_rfl) (by kernel_rfl) (by kernel_rfl) (e:=Extern.AbiNoEscape.same) (by kernel_rfl)];rw[Lib.run_noEscape];simp only[Result.andThen];rw[Oper.upon_value];go_wp2
 rw[Lib.run_from_unsafe w ⟨h,1,none⟩ underlying120 underlying36 F G Wi];simp only[Result.andThen];rw[Oper.upon_value];go_wp2
 go_end0
 exact⟨rfl,rfl⟩
theorem PF.set{n0:Nat}{a b:World}(h:PF n0 a b){p:Addr}(z:n0<=p.block)(F:Bn b p.block 41\/Bn b p.block 5)(u:Value):PF n0 a (b.setCell p u):=
 h.trans (Az.setCell (Az.refl _ b) (.inl ⟨z,F⟩) u)
theorem Fe.YF{n0:Nat}{w:World}{z:Nat}{v p F:Value}{b:List UInt8}(h:Fe n0 w z v p F b)(q:Value):Fe n0 (w.setCell ⟨z,1,none⟩ q) z v q F b:=
 ⟨h.low,h.BF.AW 1 q,h.own.kept (row:=some z) ⟨rfl,rfl,rfl,by simp[World.setCell],fun k _ hk=>Below.heap_setCell _ _ _ _ (fun e=>hk (by simp[e]))⟩ (.inr h.ne),h.ne⟩
theorem Fe.YW{n0:Nat}{w:World}{h:Nat}{v p F:Value}{b:List UInt8}(z:Fe n0 w h v p F b)(o:Nat)(q:Value):PF n0 w (w.setCell ⟨h,o,none⟩ q):=(PF.refl n0 w).set (p:=⟨h,o,none⟩) z.low (.inl z.BF.AO) q
theorem O4{n0:Nat}{w:World}{h:Nat}{v p F:Value}{b:List UInt8}(z:Fe n0 w h v p F b)(G:p=.pointer none\/p=C3 h):
  Calls prog 75 #[C3 h] w fun e w'=>e=.returned (.tuple #[])/\Fe n0 w' h v (C3 h) F b/\PF n0 w w':=by
 rcases G with rfl|rfl
 ·refine(MZ w h v F z.BF).mono ?_;rintro e w' ⟨rfl,rfl⟩;exact⟨rfl,z.YF _,z.YW _ _⟩
 ·refine(Np w h z.cells.2.1).mono ?_;rintro e w' ⟨rfl,rfl⟩;exact⟨rfl,z,PF.refl _ _⟩
theorem Rw{n0:Nat}{w:World}{z:Nat}{v p F:Value}{b:List UInt8}(h:Fe n0 w z v p F b):Calls prog 52 #[C3 z] w fun e w'=>e=.returned (.int .i64 b.length)/\w'=w:=by
 obtain⟨G,I,rfl⟩:=h.form;have J:=h.cells.2.2;clear h;unfold C3;go_enter func52,ntmps52;go_wp2
 go_ret;exact⟨rfl,rfl⟩
theorem QJ(s:List UInt8):Lib.strCells ⟨s.toArray⟩=Lib.byteCells s:=(Lib.strCells_eq _).trans (by simp)
theorem Oj{n0:Nat}{w:World}{h:Nat}{v p X:Value}{b:List UInt8}(s:List UInt8)(aa:Fe n0 w h v p X b)(ak:p=.pointer none\/p=C3 h)(aC:b.length+s.length<=140737488355328):
  Calls prog 53 #[C3 h,sv s] w fun e w'=>e=.returned (.tuple #[.int .i64 s.length,.nilIface])/\(∃al,Fe n0 w' h v (C3 h) al (b++s))/\PF n0 w w':=by
 obtain⟨am,an,ao,ap,aq⟩:=info_parts XI;have ab:=O4 aa ak;have O:=sz s;have ac:=Z ab;clear ab aa;unfold sv;go_enter func53,ntmps53;unfold C3 at ac⊢;go_wp2_with fail;refine ac.out.mono ?_;rintro e ar ⟨rfl,L,ad⟩;obtain⟨aD,aE,aF⟩:=L.cells;have au:=Z ad;have N:=Z L;have ae:=L.own;have aw:=L.lt;clear L ad;go_wp2_with (at_builtin;refine Lib.wpList_append_own_string _ rfl _ _ 37 9 rfl n0 5 am underlying37 underlying9 an ao ap aq _ _ _ rfl ae ⟨s.toArray⟩ rfl ?c3 ?c4 aw ?_);case c3=>rw[O];have:maxLen=9223372036854775807:=rfl;omega
 case c4=>rw[O];omega
 intro ax F M W _;rw[QJ,<-Lib.byteCells_append]at M;have I:Y F h 41 #[v,C3 h,X]:=by
  have:=N.out.BF;exact Y.grown this W (fun e=>N.out.ne e.symm)
 have af:PF n0 ar F:=Az.AL W fun k hk=>by
  have:=N.out.AO hk;exact⟨this.1,.inr this.2⟩
 have d0:=Y.cell I 1;have d1:=Y.cell I 2;have aG:=Y.frozen I 2;obtain⟨J,K,z,rfl⟩:∃J K z,ax=.slice J K z:=by
  rcases M.2 with⟨G,_⟩|⟨g,z,ag,G,_⟩
  ·exact⟨_,_,_,G⟩
  ·exact⟨_,_,_,G⟩
 have ah:(Value.slice J K z).ownBlock≠some h:=by
  intro e;rcases M.2 with⟨G,_⟩|⟨g,z,ag,G,_,ay,_⟩
  ·rw[G]at e;simp[Value.ownBlock]at e
  ·rw[G]at e;simp[Value.ownBlock]at e;subst e;have:Bn F g 5:=⟨ag,_,ay⟩;exact Aj (this.uniq I.AO) (by decide)
 have az:=Z M;have ai:=Z I;have aA:=Z af;have aj:=N.out.low;clear ae M W I af;go_wp2
 go_ret2;have aB:PF n0 F (F.setCell ⟨h,2,none⟩ (.slice J K z)):=(PF.refl n0 F).set (p:=⟨h,2,none⟩) aj (.inl ai.out.AO) _;refine⟨by first|rfl|simp[O],⟨.slice J K z,aj,ai.out.AW 2 _,?_,ah⟩,(au.out.trans aA.out).trans aB⟩;have:=az.out.kept (w':=F.setCell ⟨h,2,none⟩ (.slice J K z)) (row:=some h) ⟨rfl,rfl,rfl,by simp[World.setCell],fun k _ hk=>Below.heap_setCell _ _ _ _ (fun e=>hk (by simp[e]))⟩ (.inr ah);rw[BG];exact this
end
section
open Go.RowKit Lx Proofs.Tryz
theorem QU(b:List UInt8)(h:List (List UInt8))(i:Nat)(z:i<h.length):BQ b (h.take (i+1))=NP (BQ b (h.take i)) h[i]:=by
 rw[Du z,A8];rfl
theorem CW.pf{n0:Nat}{w w':World}{v:Value}{l:List (List UInt8)}(h:CW n0 w v l)(z:PF n0 w w'):CW n0 w' v l:=Cz.pf h z
theorem E9.pf{n0:Nat}{w w':World}{v:Value}{l:List Int}(h:E9 n0 w v l)(z:PF n0 w w'):E9 n0 w' v l:=Cz.pf h z
theorem Mu.pf{n0:Nat}{w w':World}{v:Value}{l:List Rd}(h:Mu n0 w v l)(z:PF n0 w w'):Mu n0 w' v l:=Cz.pf h z
theorem CW.at_{n0:Nat}{w:World}{v:Value}{h:List (List UInt8)}(F:CW n0 w v h):∃a z,v=.slice a h.length z/\h.length<=z/\h.length<=9223372036854775807:=by
 obtain⟨a,z,G,I,J,_⟩:=F.now;exact⟨a,z,G,I,J⟩
theorem CW.get{n0:Nat}{w:World}{a:Option Addr}{m G:Nat}{z:List (List UInt8)}(I:CW n0 w (.slice a m G) z)(i:Nat)(J:i<z.length):∃g h,a=some ⟨g,h,none⟩/\g<w.heap.size/\w.cell? ⟨g,h+i,none⟩=some (sv z[i]):=by
 obtain⟨O,W,F,X,_,K⟩:=I.now;injection F with F _ _;obtain⟨g,h,L,M,N⟩:=K (by omega);exact⟨g,h,F.trans L,M,N i _ (by simp[J])⟩
theorem Fe.grown{n0:Nat}{w w':World}{F:Nat}{v p z:Value}{b:List UInt8}(h:Fe n0 w F v p z b)(G:w.grownBy w' none):Fe n0 w' F v p z b:=
 ⟨h.low,Y.grown h.BF G (by simp),h.own.kept G (by cases h:z.ownBlock with|none=>exact .inl rfl|some g=>exact .inr (by simp)),h.ne⟩
theorem Bp(w:World)(n:Nat):w.grownBy (w.drewN n) none:=Az.grown (Az.drewN (Az.refl EH w) n) (fun _ _ h=>h)
theorem Ub(n0 z:Nat)(l:List V)(b:List UInt8)(h:List (List UInt8))(ab:Value)(w:World)(F:CC n0 w z l b)(M:CW n0 w ab h):
  Calls prog 20 #[.pointer (some ⟨z,0,none⟩),ab] w fun e w'=>e=.returned (.tuple #[])/\CC n0 w' z l (BQ b h)/\PF n0 w w':=by
 obtain⟨a,aH,rfl,aI,aJ⟩:=M.at_;have au:=Z M;have H:=Z F;have aK:(h.length:Int)<=9223372036854775807:=(by omega);clear M F;go_enter func20,ntmps20;go_wp2_with fail;go_loopw [8] (fun v wr=> ∃i:Nat,v=.int .i64 i/\i<=h.length/\CC n0 wr z l (BQ b (h.take i))/\PF n0 w wr) (fun v _=>h.length-(intOf v).toNat);case atStart=>exact⟨0,rfl,DD _,H.out,PF.refl _ _⟩
 case round=>
  obtain⟨i,rfl,aL,G,hF⟩:=hrel;have N:=Z hF;by_cases ac:i<h.length
  ·have aw:decide ((i:Int)<(h.length:Int))=true:=Au (by omega);have aM:(0:Int)<=i/\(i:Int)<(h.length:Int):=(by omega);obtain⟨g,aN,ax,aO,ad⟩:=(CW.pf au.out hF).get i ac;have I:=QU b h i ac;obtain⟨s,hs⟩:=U (h[i]);rw[hs]at ad I;unfold sv at ad;obtain⟨B,ae⟩:=U (BQ b (h.take i));rw[ae]at G I;obtain⟨v,p,O,W,af,ag,ay⟩:=G;have ah:=Z (fun X (aa:Fe n0 X z v p O B)=>Rw aa);have J:=Z W;have ai:=Z ag;have aj:=Z I;obtain⟨aP,aQ,aR⟩:=W.cells;clear hF hs ae W ag I;subst ax;by_cases ak:B.length<=4096
   ·have az:decide ((B.length:Int)<=4096)=true:=Au (by omega);have aS:=sz s;obtain⟨m,al⟩:=U (min s.length 4097);have aT:min (s.length:Int) 4097=(m:Int):=(by omega);have aU:m<=s.length:=(by omega);have am:s.take m=s.take 4097:=by
     rw[<-al];rcases Nat.le_total s.length 4097 with F|F
     ·rw[Nat.min_eq_left F,List.take_of_length_le (BN _),List.take_of_length_le F]
     ·rw[Nat.min_eq_right F]
    have an:=Jl s m;rw[am]at an;obtain⟨T,K⟩:=U (s.take 4097);rw[K]at an;have aV:T.length<=4097:=(by rw[<-K,Fw];omega);have L:NP B s=B++T:=(by unfold NP;rw[Ai ak,K]);have aA:=Z L;have ao:=Z (fun X (aa:Fe n0 X z v p O B)=>Oj T aa af (by omega));have aW:(0:Int)<=m/\(m:Int)<=(s.length:Int):=(by omega);unfold sv at ao;clear L am K al;go_wp2_with fail;refine(ah.out _ J.out).mono ?_;rintro e aB ⟨rfl,rfl⟩;go_wp2_with fail;refine Bh 8 (by kernel_rfl) (by kernel_rfl) ?_;simp only[List.take_succ_cons,List.take_zero,List.drop_succ_cons,List.drop_zero];repeat(first|(refine KO (.int .i64 m) rfl ?_ ?_;exact(by simp[execOp,resolve,invoke,builtin,Builtin.min_,Builtin.min2];omega))|go_big_quiet_step (fail))
    refine wpQuiet_nil ?_;rintro _ ⟨nq,rfl⟩;have aC:=Z (J.out.grown (Bp _ nq));have aD:=Z (N.out.trans (PF.AL (n0:=n0) (Bp _ nq)));have aE:=Z (Dj.pf ai.out (PF.AL (n0:=n0) (Bp _ nq)));go_wp2_with fail;refine(ao.out _ aC.out).mono ?_;rintro e aX ⟨rfl,⟨aF,ap⟩,aq⟩;have aG:=Z ap;have ar:=Z aq;clear ap aq;go_wp2_with fail;go_roundw;case rel=>exact⟨i+1,by go_num,by omega,by rw[aj.out,aA.out];exact⟨v,C3 z,aF,aG.out,.inr rfl,aE.out.pf ar.out,by rw[BG];omega⟩,aD.out.trans ar.out⟩
    case measure=>simp[intOf];omega
   ·have az:decide ((B.length:Int)<=4096)=false:=As (by omega);have L:NP B s=B:=(by unfold NP;rw[AP ak]);go_wp2_with fail;refine(ah.out _ J.out).mono ?_;rintro e aB ⟨rfl,rfl⟩;go_wp2_with fail;go_roundw;case rel=>exact⟨i+1,by go_num,by omega,by rw[aj.out,L];exact⟨v,p,O,J.out,af,ai.out,ay⟩,N.out⟩
    case measure=>simp[intOf];omega
  ·obtain rfl:i=h.length:=by omega
   have aw:decide ((h.length:Int)<(h.length:Int))=false:=As (by omega);rw[Dw]at G;go_wp2_with fail;go_end0
   exact⟨rfl,G,N.out⟩
theorem CC.grown{n0:Nat}{w w':World}{h:Nat}{l:List V}{b:List UInt8}(F:CC n0 w h l b)(z:w.grownBy w' none):CC n0 w' h l b:=by
 obtain⟨v,p,G,I,J,K,L⟩:=F;exact⟨v,p,G,I.grown z,J,K.pf (PF.AL z),L⟩
theorem Pg{w:World}{g:Nat}{e:TypeId}{h:List Value}(z:Y w g e h.toArray)(F:h.length<=9223372036854775807):Own w e 1 (.slice (some ⟨g,0,none⟩) h.length h.length) h.length h 0:=
 ⟨by omega,.inr ⟨g,0,h.length,h.toArray,(0,0),rfl,z,BN _,BN _,F,by simp,fun j _=>by simp⟩⟩
theorem Im(n0 z:Nat)(l:List V)(b:List UInt8)(h:List (List UInt8))(w:World)(G:CC n0 w z l b)(L:h.length<=1000):
  Calls prog 20 #[.pointer (some ⟨z,0,none⟩),.slice (some ⟨w.heap.size,0,none⟩) h.length h.length] (w.alloc (.cells (h.map sv).toArray 9)) fun e w'=>e=.returned (.tuple #[])/\CC n0 w' z l (BQ b h)/\PF n0 w w':=by
 have F:=Ev w (.cells (h.map sv).toArray 9) none;have I:Own (w.alloc (.cells (h.map sv).toArray 9)) 9 1 (.slice (some ⟨w.heap.size,0,none⟩) h.length h.length) h.length (h.map sv) 0:=by
  have:=Pg (Y.new w 9 (h.map sv).toArray) (by rw[List.length_map];omega);rw[List.length_map]at this;exact this
 refine(Ub n0 z l b h _ _ (G.grown F) (EB I (by decide) (by decide))).mono ?_;rintro e w' ⟨rfl,J,K⟩;exact⟨rfl,J,(PF.AL F).trans K⟩
theorem JD:∀(h:List (List UInt8)) (m:Bool) (i:Nat) (z:i<h.length),BM (h.take (i+1)) m=BM (h.take i) m++((if CA (h.take i) m=true then [[32]]else [])++[h[i]])
 |[],_,_,z=>by simp at z
 |s::r,m,0,_=>by cases m<;>simp[BM,CA]
 |s::r,m,i+1,z=>by
  have:=JD r true i (by simpa using z);rw[List.take_succ_cons,List.take_succ_cons,BM,BM,this];simp[CA]
theorem MS(n0 F:Nat)(l:List V)(b:List UInt8)(h:List (List UInt8))(m:Bool)(aa:Value)(w:World)(ab:CC n0 w F l b)(G:CW n0 w aa h):
  Calls prog 19 #[.pointer (some ⟨F,0,none⟩),aa,.bool m] w fun e w'=>e=.returned (.bool (CA h m))/\CC n0 w' F l (BQ b (BM h m))/\PF n0 w w':=by
 obtain⟨a,aw,rfl,ax,ay⟩:=G.at_;have am:=Z G;have H:=Z ab;have L:=Z (fun b h ac (an:CC n0 ac F l b) (G:h.length<=1000)=>Im n0 F l b h ac an G);have az:(h.length:Int)<=9223372036854775807:=(by omega);clear G ab;go_enter func19,ntmps19;go_wp2_with fail;go_loopw [2,11] (fun u v wr=> ∃i:Nat,v=.int .i64 i/\u=.bool (CA (h.take i) m)/\i<=h.length/\CC n0 wr F l (BQ b (BM (h.take i) m))/\PF n0 w wr) (fun _ v wr=>h.length-(intOf v).toNat);case atStart=>exact⟨0,rfl,by cases m<;>rfl,DD _,H.out,PF.refl _ _⟩
 case round=>
  obtain⟨i,rfl,rfl,aA,I,hF⟩:=hrel;have M:=Z hF;by_cases N:i<h.length
  ·have ao:decide ((i:Int)<(h.length:Int))=true:=Au (by omega);have aB:(0:Int)<=i/\(i:Int)<(h.length:Int):=(by omega);obtain⟨g,aC,ap,aD,ad⟩:=(CW.pf am.out hF).get i N;have K:=JD h m i N;have ae:CA (h.take (i+1)) m=true:=by
    unfold CA;rw[Du N];cases h.take i<;>simp
   obtain⟨s,hs⟩:=U (h[i]);rw[hs]at ad K;unfold sv at ad;obtain⟨af,ag⟩:=U (CA (h.take i) m);rw[ag]at K⊢;have O:BQ b (BM (h.take (i+1)) m)=BQ (BQ b (BM (h.take i) m)) ((if af=true then [[32]]else [])++[s]):=(by rw[K,A8]);obtain⟨B,ah⟩:=U (BQ b (BM (h.take i) m));rw[ah]at I O;have ai:=Z I;have aj:=Z O;have ak:=Z ae;clear hF hs ah K O ae ag I;subst ap;cases af with
   |true=>
    go_wp2_with fail;refine(L.out B [[32]] _ ai.out (by decide)).mono ?_;rintro e aE ⟨rfl,z,al⟩;have aq:=Z z;have ar:=Z (M.out.trans al);clear z al;go_wp2_with fail;refine(L.out _ [s] _ aq.out (by simp)).mono ?_;rintro e au ⟨rfl,z,J⟩;have W:=Z z;have X:=Z (ar.out.trans J);clear z J;go_wp2_with fail;go_roundw;case rel=>exact⟨i+1,by go_num,by rw[ak.out],by omega,by rw[aj.out];exact W.out,X.out⟩
    case measure=>simp[intOf];omega
   |false=>
    go_wp2_with fail;refine(L.out B [s] _ ai.out (by simp)).mono ?_;rintro e au ⟨rfl,z,J⟩;have W:=Z z;have X:=Z (M.out.trans J);clear z J;go_wp2_with fail;go_roundw;case rel=>exact⟨i+1,by go_num,by rw[ak.out],by omega,by rw[aj.out];exact W.out,X.out⟩
    case measure=>simp[intOf];omega
  ·obtain rfl:i=h.length:=by omega
   have ao:decide ((h.length:Int)<(h.length:Int))=false:=As (by omega);rw[Dw]at I⊢;go_wp2_with fail;go_ret;exact⟨rfl,I,M.out⟩
end
end Go.Proofs.YtdhfhphbkfgamaaGreat
