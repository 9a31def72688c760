/- A part. -/
import Derived.Test.YtdhfhphbkfgamaaGreatXd
set_option maxRecDepth 100000
set_option linter.all false
namespace Go.Proofs.YtdhfhphbkfgamaaGreat
open Lx Proofs.Tryz
def Da:List UInt8:=[33]
def GM:List UInt8:=[123]
def C4:List UInt8:=[125]
def GQ:List UInt8:=[99,97,115,101]
def ER:List UInt8:=[100,111]
def BX:List UInt8:=[100,111,110,101]
def Fl:List UInt8:=[101,108,105,102]
def Fa:List UInt8:=[101,108,115,101]
def DG:List UInt8:=[101,115,97,99]
def IH:List UInt8:=[102,105]
def JS:List UInt8:=[102,111,114]
def Ph:List UInt8:=[105,102]
def F1:List UInt8:=[105,110]
def Fb:List UInt8:=[116,104,101,110]
def Dk:List UInt8:=[117,110,116,105,108]
def Dv:List UInt8:=[119,104,105,108,101]
def GI:List UInt8:=[10]
def C9:List UInt8:=[38]
def Be:List UInt8:=[59]
def EV:List UInt8:=[59,59]
def KV:List UInt8:=[38,38]
def RH:List UInt8:=[124,124]
def F4:List UInt8:=[124]
def Bz:List UInt8:=[40]
def DX:List UInt8:=[41]
def Lh:List (List UInt8):=[Da,GM,C4,GQ,ER,BX,Fl,Fa,DG,IH,JS,Ph,F1,Fb,Dk,Dv]
def GJ:List (List UInt8):=[[60],[62],[62,62],[60,38],[62,38],[60,62],[62,124]]
def Df(s:List UInt8):Bool:=Lh.contains s
structure Rd where
 fd:Int
 op:List UInt8
 wd:List UInt8
structure V where
 kind:Int
 name:List UInt8:=[]
 A7:Bool:=false
 AZ:List (List UInt8):=[]
 words:List (List UInt8):=[]
 AK:List Rd:=[]
 AT:List (List (List UInt8)):=[]
 kids:List Int:=[]
def FF(c:UInt8):Bool:=decide (97<=c.toNat/\c.toNat<=122)||decide (65<=c.toNat/\c.toNat<=90)||decide (c.toNat=95)
def Gp(c:UInt8):Bool:=decide (48<=c.toNat/\c.toNat<=57)
def Fp:Bool->List UInt8->Nat
 |_,[]=>0
 |f,c::r=>if(FF c||(!f&&Gp c))=true then Fp false r+1 else 0
def Gq(s:List UInt8):Nat:=Fp true s
def CE(t:AY):Bool:=t.k==1&&Gq t.t==t.t.length
inductive PR (α:Type)
 |ok (x:α) (ts:List AY) (ns:List V)
 |bad (a e:Int)
def PR.bind{α h:Type}(r:PR α)(f:α->List AY->List V->PR h):PR h:=match r with
 | .ok x ts ns=>f x ts ns
 | .bad a e=> .bad a e
theorem PR.Bm{α h:Type}(x:α)(ts:List AY)(ns:List V)(f:α->List AY->List V->PR h):(PR.ok x ts ns).bind f=f x ts ns:=rfl
theorem PR.LG{α h:Type}(a e:Int)(f:α->List AY->List V->PR h):(PR.bad a e:PR α).bind f=.bad a e:=rfl
def Dx(ts:List AY)(s:List UInt8):Bool:=match ts with
 |t::_=>t.k==2&&t.t==s
 |[]=>false
def GD(ts:List AY)(s:List UInt8):Bool:=match ts with
 |t::_=>t.k==1&&t.t==s
 |[]=>false
def BT(ts:List AY)(s:List UInt8):Bool:=Dx ts s||GD ts s
def A5(ts:List AY)(s:List UInt8):List AY:=if BT ts s=true then ts.tail else ts
def A3{α:Type}(ts:List AY):PR α:=match ts with
 |t::_=> .bad t.a (if t.k=4 then 23 else 17)
 |[]=> .bad 0 0
def AX(s:List UInt8)(ts:List AY)(ns:List V):PR Unit:=if BT ts s=true then .ok () ts.tail ns else A3 ts
def AG:List AY->List AY
 |t::r=>if(t.k==2&&t.t==GI)=true then AG r else t::r
 |[]=>[]
def FO(t:AY):Bool:=t.k==2&&GJ.contains t.t
def Fi:List (List UInt8):=[GM,Ph,Dv,Dk,JS,GQ]
def Fj(t:AY):Bool:=(t.k==2&&t.t==Bz)||(t.k==1&&Fi.contains t.t)
def BZ(ts:List AY):Bool:=match ts with
 |t::_=>Fj t||FO t||t.k==3||(t.k==1&&(t.t==Da||t.t==F1||!Df t.t))
 |[]=>false
def Ao(n:V)(ts:List AY)(ns:List V):PR Int:=.ok ns.length ts (ns++[n])
abbrev DC:=List AY->List V->PR Int
def Cd(G:DC):Nat->List Int->Bool->List AY->List V->PR (List Int×Bool)
 |0,_,_,_,_=> .bad 0 0
 |f+1,kids,z,ts,ns=>(G ts ns).bind fun x ts ns=>
  let amp:=BT ts C9
  let h:=A5 ts C9
  let y:Int:=if amp=true then ns.length else x
  let ns:=if amp=true then ns++[{ kind:=7,kids:=[x] }]else ns
  if(amp||BT h Be||BT h GI)=true then
   let F:=if amp=true then h else h.tail
   if BZ (AG F)=true then Cd G f (kids++[y]) (z||amp) (AG F) ns else .ok (kids++[y],z||amp) (AG F) ns
  else .ok (kids++[y],z||amp) h ns
def Gm(h:DC):DC:=fun ts ns=>(Cd h (ts.length+1) [] false (AG ts) ns).bind fun k ts ns=>
 match k.1 with
 |[x]=>if k.2=true then Ao { kind:=6,kids:=[x] } (AG ts) ns else .ok x (AG ts) ns
 |l=>Ao { kind:=6,kids:=l } (AG ts) ns
def CY(h:DC):Nat->Int->DC
 |0,_,_,_=> .bad 0 0
 |f+1,x,ts,ns=>
  if BT ts KV=true then(h (AG ts.tail) ns).bind fun y ts ns=>CY h f ns.length ts (ns++[{ kind:=4,kids:=[x,y] }])
  else if BT ts RH=true then(h (AG ts.tail) ns).bind fun y ts ns=>CY h f ns.length ts (ns++[{ kind:=5,kids:=[x,y] }])
  else .ok x ts ns
def GV(h:DC):DC:=fun ts ns=>(h ts ns).bind fun x ts ns=>CY h (ts.length+1) x ts ns
def DK(h:DC):Nat->List Int->List AY->List V->PR (List Int)
 |0,_,_,_=> .bad 0 0
 |f+1,z,ts,ns=>if BT ts F4=true then(h (AG ts.tail) ns).bind fun y ts ns=>DK h f (z++[y]) ts ns else .ok z ts ns
def Ff(b:Bool)(x:Int):DC:=fun ts ns=>if b=true then Ao { kind:=2,kids:=[x] } ts ns else .ok x ts ns
def FM(z:DC):DC:=fun ts ns=>(z (A5 ts Da) ns).bind fun x h ns=>(DK z (h.length+1) [x] h ns).bind fun kids h ns=>
 if 1<kids.length then Ff (BT ts Da) ns.length h (ns++[{ kind:=3,kids:=kids }])else Ff (BT ts Da) (kids.headD 0) h ns
def OK:List AY->Bool
 |w::_=>w.k==1||w.k==3
 |[]=>false
def B2:Nat->List Rd->List AY->List V->PR (List Rd)
 |0,_,_,_=> .bad 0 0
 |f+1,h,ts,ns=>match ts with
  |[]=> .bad 0 0
  |t::r=>
   if(t.k==3&&FO (r.headD t))=true then
    (if OK r.tail=true then B2 f (h++[⟨((t.t.headD 0).toNat:Int)-48,(r.headD t).t,(r.tail.headD t).t⟩]) r.tail.tail ns else A3 r.tail)
   else if FO t=true then
    (if OK r=true then B2 f (h++[⟨-1,t.t,(r.headD t).t⟩]) r.tail ns else A3 r)
   else .ok h (t::r) ns
def Cb(ts:List AY)(ns:List V):PR (List Rd):=B2 (ts.length+1) [] ts ns
def GC(s:List UInt8):Bool:=decide (0<Gq s)&&decide (Gq s<s.length)&&(s.getD (Gq s) 0==61)
def Co:Nat->V->List AY->List V->PR V
 |0,_,_,_=> .bad 0 0
 |f+1,n,ts,ns=>(Cb ts ns).bind fun l ts ns=>
  let n:= { n with AK:=n.AK++l }
  match ts with
  |[]=> .bad 0 0
  |t::r=>
   if t.k≠1 then .ok n ts ns
   else if 0<n.words.length then Co f { n with words:=n.words++[t.t] } r ns
   else if GC t.t=true then Co f { n with AZ:=n.AZ++[t.t] } r ns
   else if(t.t !=F1&&Df t.t)=true then .ok n ts ns
   else Co f { n with words:=n.words++[t.t] } r ns
def Iz:DC:=fun ts ns=>(Co (ts.length+1) { kind:=1 } ts ns).bind fun n ts ns=>if n.AZ.length+n.words.length+n.AK.length=0 then A3 ts else Ao n ts ns
abbrev Eg:=Nat->DC
def B1(f:Eg):Eg:=fun d ts ns=>if 24<d then .bad (match ts with|t::_=>(t.a:Int)|[]=>0) 17 else f (d+1) ts ns
def Dq(ns:List V)(x:Int)(l:List Rd):List V:=ns.modify x.toNat fun n=> { n with AK:=l }
def FI(core:Eg):Eg:=fun d ts ns=>(B1 core d ts ns).bind fun x ts ns=>(Cb ts ns).bind fun l ts ns=> .ok x ts (Dq ns x l)
def E7(ts:List AY):Bool:=match ts with
 |t::_=>Fj t
 |[]=>false
def Xx(ts:List AY):List UInt8:=match ts with
 |t::_=>t.t
 |[]=>[]
def I0(z:Eg):Eg:=fun d ts ns=>(AX Bz ts.tail ns).bind fun _ h ns=>(AX DX h ns).bind fun _ h ns=>
 if E7 (AG h)=true then(z d (AG h) ns).bind fun x h ns=>Ao { kind:=15,name:=Xx ts,kids:=[x] } h ns else A3 (AG h)
def I2(ts:List AY):Bool:=match ts with
 |t::u::_=>CE t&&!Df t.t&&u.k==2&&u.t==Bz
 |_=>false
def FW(h:Eg):Eg:=fun d ts ns=>if E7 ts=true then h d ts ns else if I2 ts=true then B1 (I0 h) d ts ns else Iz ts ns
def S8(h:Eg):Eg:=fun d=>Gm (GV (FM (FW h d)))
def FZ(Al:DC):Nat->DC
 |0,_,_=> .bad 0 0
 |f+1,ts,ns=>(Al ts ns).bind fun a ts ns=>(AX Fb ts ns).bind fun _ ts ns=>(Al ts ns).bind fun b ts ns=>
  if BT ts Fl=true then(FZ Al f ts.tail ns).bind fun c ts ns=>Ao { kind:=10,kids:=[a,b,c] } ts ns
  else if BT ts Fa=true then(Al ts.tail ns).bind fun c ts ns=>(AX IH ts ns).bind fun _ ts ns=>Ao { kind:=10,kids:=[a,b,c] } ts ns
  else(AX IH ts ns).bind fun _ ts ns=>Ao { kind:=10,kids:=[a,b] } ts ns
def Cv:List AY->List (List UInt8)
 |t::r=>if t.k=1 then t.t::Cv r else []
 |[]=>[]
def BS:List AY->List AY
 |t::r=>if t.k=1 then BS r else t::r
 |[]=>[]
def E4(ts:List AY)(ns:List V):PR V:=match ts with
 |[]=> .bad 0 0
 |t::r=>if CE t=true then
   let h:=AG r
   if BT h F1=true then
    let z:=BS h.tail
    if(BT z Be||BT z GI)=true then(AX ER (AG z.tail) ns).bind fun _ ts ns=> .ok { kind:=13,name:=t.t,A7:=true,words:=Cv h.tail } ts ns
    else A3 z
   else(AX ER (AG (A5 h Be)) ns).bind fun _ ts ns=> .ok { kind:=13,name:=t.t } ts ns
  else A3 ts
def Ea(ts:List AY)(ns:List V):PR (List UInt8):=match ts with
 |t::r=>if t.k=1 then .ok t.t r ns else A3 ts
 |[]=> .bad 0 0
def DN:Nat->List (List UInt8)->List AY->List V->PR (List (List UInt8))
 |0,_,_,_=> .bad 0 0
 |f+1,h,ts,ns=>if BT ts F4=true then(Ea ts.tail ns).bind fun s ts ns=>DN f (h++[s]) ts ns else .ok h ts ns
def Ck(Al:DC):Nat->V->List AY->List V->PR V
 |0,_,_,_=> .bad 0 0
 |f+1,n,ts,ns=>if GD ts DG=true then .ok n ts ns else
  (Ea (if Dx ts Bz=true then ts.tail else ts) ns).bind fun s ts ns=>(DN (ts.length+1) [s] ts ns).bind fun AT ts ns=>(AX DX ts ns).bind fun _ ts ns=>
  (if BZ (AG ts)=true then Al (AG ts) ns else .ok (-1) (AG ts) ns).bind fun body ts ns=>
  let n:= { n with AT:=n.AT++[AT],kids:=n.kids++[body] }
  if BT ts EV=true then Ck Al f n (AG ts.tail) ns else .ok n ts ns
def EN(Al:DC)(ts:List AY)(ns:List V):PR V:=(Ea ts ns).bind fun s ts ns=>(AX F1 (AG ts) ns).bind fun _ ts ns=>
 (Ck Al (ts.length+1) { kind:=14,words:=[s] } (AG ts) ns).bind fun n ts ns=>(AX DG ts ns).bind fun _ ts ns=> .ok n ts ns
def coreS(Al:DC)(s:List UInt8):DC:=fun ts ns=>
 if s=GM then(Al ts ns).bind fun x ts ns=>(AX C4 ts ns).bind fun _ ts ns=>Ao { kind:=8,kids:=[x] } ts ns
 else if s=Bz then(Al ts ns).bind fun x ts ns=>(AX DX ts ns).bind fun _ ts ns=>Ao { kind:=9,kids:=[x] } ts ns
 else if s=Ph then FZ Al (ts.length+1) ts ns
 else if s=JS then(E4 ts ns).bind fun n ts ns=>(Al ts ns).bind fun x ts ns=>(AX BX ts ns).bind fun _ ts ns=>Ao { n with kids:=[x] } ts ns
 else if s=GQ then(EN Al ts ns).bind fun n ts ns=>Ao n ts ns
 else(Al ts ns).bind fun x ts ns=>(AX ER ts ns).bind fun _ ts ns=>(Al ts ns).bind fun y ts ns=>(AX BX ts ns).bind fun _ ts ns=>
  Ao { kind:=if s=Dk then 12 else if s=Dv then 11 else 0,kids:=[x,y] } ts ns
def F5(Al:Eg):Eg:=fun d ts ns=>match ts with
 |t::r=>if t.k=4 then .bad 0 0 else coreS (Al d) t.t r ns
 |[]=> .bad 0 0
def core:Nat->Eg
 |0=>fun _ _ _=> .bad 0 0
 |f+1=>F5 (S8 (FI (core f)))
def Al(f:Nat):Eg:=S8 (FI (core f))
structure Ps where
 ns:List V
 a:Int
 e:Int
def JK(ts:List AY):Ps:=
 match AG ts with
 |[]=>⟨[],0,0⟩
 |t::r=>if t.k=4 then⟨[],0,0⟩else match Al ts.length 0 (t::r) []with
  | .bad a e=>⟨[],a,e⟩
  | .ok _ ts ns=>match ts with
   |[]=>⟨[],0,0⟩
   |u::_=>if u.k≠4 then⟨[],u.a,17⟩else if 300<ns.length then⟨[],0,12⟩else⟨ns,0,0⟩
def CD(s:List UInt8):Ps:=match GA s with
 | .err a e=>⟨[],a,e⟩
 | .ok ts=>JK ts
def Good(ts:List AY):Prop:=∃p e,ts=p++[e]/\e.k=4/\ ∀t∈p,t.k≠4
theorem Good.tail{t:AY}{r:List AY}(F:Good (t::r))(hk:t.k≠4):Good r:=by
 obtain⟨p,e,h,z,G⟩:=F;cases p with
 |nil=>simp at h;exact Aj (h.1▸z) hk
 |cons q p=>
  simp at h;exact⟨p,e,h.2,z,fun t I=>G t (List.mem_cons_of_mem _ I)⟩
theorem Good.ne{ts:List AY}(h:Good ts):∃t r,ts=t::r:=by
 obtain⟨p,e,rfl,_,_⟩:=h;cases p with
 |nil=>exact⟨e,[],rfl⟩
 |cons q p=>exact⟨q,p++[e],rfl⟩
theorem Good.pos{ts:List AY}(h:Good ts):0<ts.length:=by
 obtain⟨t,r,rfl⟩:=h.ne;simp
theorem MK{t:AY}{r:List AY}{s:List UInt8}(h:Dx (t::r) s=true):t.k=2/\t.t=s:=by
 unfold Dx at h;simpa using h
theorem Uv{t:AY}{r:List AY}{s:List UInt8}(h:GD (t::r) s=true):t.k=1/\t.t=s:=by
 unfold GD at h;simpa using h
theorem GL{t:AY}{r:List AY}{s:List UInt8}(h:BT (t::r) s=true):t.k≠4/\t.t=s:=by
 unfold BT at h;rw[GX]at h;rcases h with h|h
 ·have:=MK h;exact⟨by omega,this.2⟩
 ·have:=Uv h;exact⟨by omega,this.2⟩
theorem BD{ts:List AY}{s:List UInt8}(h:Good ts)(z:BT ts s=true):Good ts.tail/\ts.tail.length+1=ts.length:=by
 obtain⟨t,r,rfl⟩:=h.ne;exact⟨h.tail (GL z).1,rfl⟩
theorem Iu{ts:List AY}{s:List UInt8}(h:Good ts):Good (A5 ts s)/\(A5 ts s).length<=ts.length:=by
 unfold A5;split
 ·have:=BD h (by assumption);exact⟨this.1,by omega⟩
 ·exact⟨h,BN _⟩
theorem Ae:∀ {ts:List AY},Good ts->Good (AG ts)/\(AG ts).length<=ts.length
 |[],h=>⟨h,BN _⟩
 |t::r,h=>by
  unfold AG;split
  ·rename_i z;have hk:t.k≠4:=(by simp at z;omega);have:=Ae (h.tail hk);exact⟨this.1,by simp only[BR];omega⟩
  ·exact⟨h,BN _⟩
theorem bind_eq{α h:Type}{r:PR α}{f:α->List AY->List V->PR h}{y:h}{z:List AY}{F:List V}(G:r.bind f=.ok y z F):∃x ts ns,r=.ok x ts ns/\f x ts ns=.ok y z F:=by
 cases r with
 |ok x ts ns=>exact⟨x,ts,ns,rfl,G⟩
 |bad a e=>cases G
theorem CX{α:Type}{ts:List AY}{y:α}{z:List AY}{F:List V}(h:A3 ts=.ok y z F):False:=by
 unfold A3 at h;split at h<;>cases h
theorem DR{s:List UInt8}{ts:List AY}{ns:List V}{u:Unit}{h:List AY}{F:List V}(I:Good ts)(z:AX s ts ns=.ok u h F):Good h/\h.length+1=ts.length/\F=ns/\BT ts s=true/\h=ts.tail:=by
 unfold AX at z;split at z
 ·rename_i G;injection z with _ J K;subst J K;have:=BD I G;exact⟨this.1,this.2,rfl,G,rfl⟩
 ·exact(CX z).elim
structure Left(c:Nat)(ts:List AY)(ns:List V)(x:Int)(ts':List AY)(ns':List V):Prop where
 Ak:Good ts'
 len:ts'.length+1<=ts.length
 EG:ns'.length+10*ts'.length+c<=ns.length+10*ts.length
 more:ns.length<ns'.length
 last:x=(ns'.length:Int)-1
def Ki(c:Nat)(f:DC):Prop:=∀ts ns x h z,Good ts->f ts ns=.ok x h z->Left c ts ns x h z
def Fc(c:Nat)(f:Eg):Prop:=∀d,Ki c (f d)
theorem EM{n:V}{ts:List AY}{ns:List V}{x:Int}{h:List AY}{z:List V}(F:Ao n ts ns=.ok x h z):x=ns.length/\h=ts/\z=ns++[n]:=by
 unfold Ao at F;injection F with G I J;exact⟨G.symm,I.symm,J.symm⟩
theorem Qd{ab:DC}(ad:Ki 3 ab):∀(f:Nat) (J:List Int) (W:Bool) (ts:List AY) (ns:List V) (k:List Int×Bool) (z:List AY) (I:List V),Good ts->Cd ab f J W ts ns=.ok k z I->
  Good z/\z.length+1<=ts.length/\I.length+10*z.length+3<=ns.length+10*ts.length/\ns.length<I.length/\(k.1.length+z.length<=J.length+ts.length)/\J.length<k.1.length/\k.1.getLastD 0=(I.length:Int)-1:=by
 intro f;induction f with
 |zero=>intro J W ts ns k z I _ h;cases h
 |succ f ih=>
  intro J W ts ns k z I ae h;rw[Cd]at h;obtain⟨x,t1,ag,af,ac⟩:=bind_eq h;clear h;have h:=ac;clear ac;have F:=ad _ _ _ _ _ ae af;have ah:=F.len;have ai:=F.EG;have aj:=F.more;have ak:=F.last;simp only[]at h;by_cases G:BT t1 C9=true
  ·have X:A5 t1 C9=t1.tail:=Ai G;have aa:=BD F.Ak G;have K:=Ae aa.1;simp only[G,X,Bool.true_or,if_true]at h;by_cases L:BZ (AG t1.tail)=true
   ·rw[Ai L]at h;have:=ih _ _ _ _ _ _ _ K.1 h;simp only[BG,Cj]at this;exact⟨this.1,by omega,by omega,by omega,by omega,by omega,this.2.2.2.2.2.2⟩
   ·rw[AP L]at h;injection h with M N O;subst M N O;simp only[BG,Cj];exact⟨K.1,by omega,by omega,by omega,by omega,by omega,by simp⟩
  ·have G:BT t1 C9=false:=(by simpa using G);have X:A5 t1 C9=t1:=(by unfold A5;rw[G];rfl);simp only[G,X,Bool.false_or]at h;by_cases hs:(BT t1 Be||BT t1 GI)=true
   ·simp only[hs,if_true]at h;have aa:Good t1.tail/\t1.tail.length+1=t1.length:=by
     rw[GX]at hs;rcases hs with hs|hs<;>exact BD F.Ak hs
    have K:=Ae aa.1;simp only[Bool.false_eq_true,if_false]at h;by_cases L:BZ (AG t1.tail)=true
    ·rw[Ai L]at h;have:=ih _ _ _ _ _ _ _ K.1 h;simp only[BG,Cj]at this;exact⟨this.1,by omega,by omega,by omega,by omega,by omega,this.2.2.2.2.2.2⟩
    ·rw[AP L]at h;injection h with M N O;subst M N O;simp only[BG,Cj];exact⟨K.1,by omega,by omega,by omega,by omega,by omega,by simp;omega⟩
   ·have hs:(BT t1 Be||BT t1 GI)=false:=(by simpa using hs);simp only[hs,Bool.false_eq_true,if_false]at h;injection h with M N O;subst M N O;simp only[BG,Cj];exact⟨F.Ak,by omega,by omega,by omega,by omega,by omega,by simp;omega⟩
theorem Sl{F:DC}(J:Ki 3 F):Ki 2 (Gm F):=by
 intro ts ns x aa ab K h;unfold Gm at h;obtain⟨k,t1,ac,L,G⟩:=bind_eq h;clear h;have h:=G;clear G;have M:=Ae K;obtain⟨N,ad,ae,af,ag,ah,I⟩:=Qd J _ _ _ _ _ _ _ _ M.1 L;have z:=Ae N;split at h
 ·rename_i ai hk;split at h
  ·obtain⟨rfl,rfl,rfl⟩:=EM h;exact⟨z.1,by omega,by simp;omega,by simp;omega,by simp⟩
  ·injection h with O W X;subst O W X;rw[hk]at I;exact⟨z.1,by omega,by omega,by omega,I⟩
 ·obtain⟨rfl,rfl,rfl⟩:=EM h;exact⟨z.1,by omega,by simp;omega,by simp;omega,by simp⟩
theorem QH{O:DC}(W:Ki 3 O):∀(f:Nat) (x:Int) (ts:List AY) (ns:List V) (y:Int) (F:List AY) (G:List V),Good ts->x=(ns.length:Int)-1->CY O f x ts ns=.ok y F G->
  Good F/\F.length<=ts.length/\G.length+10*F.length<=ns.length+10*ts.length/\ns.length<=G.length/\y=(G.length:Int)-1:=by
 intro f;induction f with
 |zero=>intro x ts ns y F G _ _ h;cases h
 |succ f ih=>
  intro x ts ns y F G J hx h;rw[CY]at h;split at h
  ·rename_i K;have L:=BD J K;have M:=Ae L.1;obtain⟨X,t1,aa,N,I⟩:=bind_eq h;clear h;have h:=I;clear I;have z:=W _ _ _ _ _ M.1 N;have ab:=z.len;have ac:=z.EG;have ad:=z.more;have:=ih _ _ _ _ _ _ z.Ak (by simp) h;simp only[BG,Cj]at this;exact⟨this.1,by omega,by omega,by omega,this.2.2.2.2⟩
  ·split at h
   ·rename_i K;have L:=BD J K;have M:=Ae L.1;obtain⟨X,t1,aa,N,I⟩:=bind_eq h;clear h;have h:=I;clear I;have z:=W _ _ _ _ _ M.1 N;have ab:=z.len;have ac:=z.EG;have ad:=z.more;have:=ih _ _ _ _ _ _ z.Ak (by simp) h;simp only[BG,Cj]at this;exact⟨this.1,by omega,by omega,by omega,this.2.2.2.2⟩
   ·injection h with ae af ag;subst ae af ag;exact⟨J,BN _,BN _,BN _,hx⟩
theorem LW{F:DC}(G:Ki 3 F):Ki 3 (GV F):=by
 intro ts ns x N O J h;unfold GV at h;obtain⟨k,t1,W,K,I⟩:=bind_eq h;clear h;have h:=I;clear I;have z:=G _ _ _ _ _ J K;have X:=z.len;have aa:=z.EG;have ab:=z.more;obtain⟨L,ac,ad,ae,M⟩:=QH G _ _ _ _ _ _ _ z.Ak z.last h;exact⟨L,by omega,by omega,by omega,M⟩
theorem QR{J:DC}(N:Ki 5 J):∀(f:Nat) (h:List Int) (ts:List AY) (ns:List V) (k:List Int) (F:List AY) (G:List V),Good ts->h.getLastD 0=(ns.length:Int)-1->DK J f h ts ns=.ok k F G->
  Good F/\F.length<=ts.length/\G.length+10*F.length<=ns.length+10*ts.length/\ns.length<=G.length/\h.length<=k.length/\k.length+F.length<=h.length+ts.length/\k.getLastD 0=(G.length:Int)-1/\k.headD 0=(if h=[]then k.headD 0 else h.headD 0):=by
 intro f;induction f with
 |zero=>intro h ts ns k F G _ _ z;cases z
 |succ f ih=>
  intro h ts ns k F G K hk z;rw[DK]at z;split at z
  ·rename_i O;have W:=BD K O;have X:=Ae W.1;obtain⟨ae,t1,af,aa,L⟩:=bind_eq z;clear z;have z:=L;clear L;have I:=N _ _ _ _ _ X.1 aa;have ag:=I.len;have ah:=I.EG;have ai:=I.more;have:=ih _ _ _ _ _ _ I.Ak (by simp;exact I.last) z;simp only[BG,Cj]at this;refine⟨this.1,by omega,by omega,by omega,by omega,by omega,this.2.2.2.2.2.2.1,?_⟩;have M:=this.2.2.2.2.2.2.2;cases h with
   |nil=>rfl
   |cons q l=>rw[AP (by simp)]at M⊢;exact M
  ·injection z with ab ac ad;subst ab ac ad;refine⟨K,BN _,BN _,BN _,BN _,BN _,hk,by split<;>rfl⟩
theorem PE{b:Bool}{x y:Int}{ts F:List AY}{ns h:List V}(hx:x=(ns.length:Int)-1)(z:Ff b x ts ns=.ok y F h):F=ts/\h.length<=ns.length+1/\ns.length<=h.length/\y=(h.length:Int)-1:=by
 unfold Ff at z;split at z
 ·obtain⟨rfl,rfl,rfl⟩:=EM z;exact⟨rfl,by simp,by simp,by simp⟩
 ·injection z with G I J;subst G I J;exact⟨rfl,by omega,BN _,hx⟩
theorem IJ{I:DC}(J:Ki 5 I):Ki 3 (FM I):=by
 intro ts ns x ad ae N h;unfold FM at h;obtain⟨y,t1,af,O,z⟩:=bind_eq h;clear h;have h:=z;clear z;have W:=Iu (s:=Da) N;have F:=J _ _ _ _ _ W.1 O;have ag:=F.len;have ah:=F.EG;have ai:=F.more;obtain⟨k,t2,aj,X,z⟩:=bind_eq h;clear h;have h:=z;clear z;obtain⟨K,ak,al,am,aa,an,ab,ao⟩:=QR J _ _ _ _ _ _ _ F.Ak (by simp;exact F.last) X;split at h
 ·obtain⟨rfl,L,M,G⟩:=PE (by simp) h;simp only[BG,Cj]at L M;exact⟨K,by omega,by omega,by omega,G⟩
 ·rename_i ap;have ac:k.length=1:=(by simp only[Cj]at aa;omega);obtain⟨aq,rfl⟩:=List.length_eq_one_iff.1 ac;obtain⟨rfl,L,M,G⟩:=PE (by simpa using ab) h;exact⟨K,by omega,by omega,by omega,G⟩
theorem Ok:∀(f:Nat) (F:List Rd) (ts:List AY) (ns:List V) (l:List Rd) (G:List AY) (L:List V),Good ts->B2 f F ts ns=.ok l G L->
  Good G/\L=ns/\F.length<=l.length/\l.length+G.length<=F.length+ts.length:=by
 intro f;induction f with
 |zero=>intro F ts ns l G L _ h;cases h
 |succ f ih=>
  intro F ts ns l G L M h;obtain⟨t,r,rfl⟩:=M.ne;rw[B2]at h;split at h
  ·rename_i I;rw[CN]at I;have hk:t.k=3:=(by simpa using I.1);have O:=M.tail (by omega);obtain⟨o,r,rfl⟩:=O.ne;have W:o.k=2:=by
    have z:=I.2;unfold FO at z;rw[CN]at z;simpa using z.1
   have J:=O.tail (by omega);obtain⟨w,r,rfl⟩:=J.ne;split at h
   ·rename_i K;have N:=J.tail (by unfold OK at K;simp at K;omega);have:=ih _ _ _ _ _ _ N h;simp only[BG,Cj,List.tail_cons]at this;simp only[BR];exact⟨this.1,this.2.1,by omega,by omega⟩
   ·exact(CX h).elim
  ·split at h
   ·rename_i z;unfold FO at z;rw[CN]at z;have W:t.k=2:=(by simpa using z.1);have J:=M.tail (by omega);obtain⟨w,r,rfl⟩:=J.ne;split at h
    ·rename_i K;have N:=J.tail (by unfold OK at K;simp at K;omega);have:=ih _ _ _ _ _ _ N h;simp only[BG,Cj,List.tail_cons]at this;simp only[BR];exact⟨this.1,this.2.1,by omega,by omega⟩
    ·exact(CX h).elim
   ·injection h with X aa I;subst X aa I;exact⟨M,rfl,BN _,BN _⟩
theorem Dz{ts:List AY}{ns:List V}{l:List Rd}{h:List AY}{z:List V}(F:Good ts)(G:Cb ts ns=.ok l h z):Good h/\z=ns/\l.length+h.length<=ts.length:=by
 have:=Ok _ _ _ _ _ _ _ F G;exact⟨this.1,this.2.1,by simpa using this.2.2.2⟩
theorem RL:∀(f:Nat) (n:V) (ts:List AY) (ns:List V) (m:V) (z:List AY) (F:List V),Good ts->Co f n ts ns=.ok m z F->
  Good z/\F=ns/\m.AZ.length+m.words.length+m.AK.length+z.length<=n.AZ.length+n.words.length+n.AK.length+ts.length:=by
 intro f;induction f with
 |zero=>intro n ts ns l z F _ h;cases h
 |succ f ih=>
  intro n ts ns m z F M h;rw[Co]at h;obtain⟨l,t1,J,N,K⟩:=bind_eq h;clear h;have h:=K;clear K;obtain⟨G,rfl,O⟩:=Dz M N;obtain⟨t,r,rfl⟩:=G.ne;simp only[BR]at O;simp only[]at h;have L:∀ {m:V} {z:List AY} {F:List V},PR.ok { n with AK:=n.AK++l } (t::r) J=.ok m z F->Good z/\F=J/\m.AZ.length+m.words.length+m.AK.length+z.length<=n.AZ.length+n.words.length+n.AK.length+ts.length:=by
   intro m z F h;injection h with W X aa;subst W X aa;simp only[BG,BR];exact⟨G,by trivial,by omega⟩
  split at h
  ·exact L h
  ·rename_i hk;have I:=G.tail (by omega);split at h
   ·have:=ih _ _ _ _ _ _ I h;simp only[BG,Cj]at this;exact⟨this.1,this.2.1,by omega⟩
   ·split at h
    ·have:=ih _ _ _ _ _ _ I h;simp only[BG,Cj]at this;exact⟨this.1,this.2.1,by omega⟩
    ·split at h
     ·exact L h
     ·have:=ih _ _ _ _ _ _ I h;simp only[BG,Cj]at this;exact⟨this.1,this.2.1,by omega⟩
theorem Te:Ki 5 Iz:=by
 intro ts ns x K L F h;unfold Iz at h;obtain⟨m,t1,M,G,z⟩:=bind_eq h;clear h;have h:=z;clear z;obtain⟨I,rfl,J⟩:=RL _ _ _ _ _ _ _ F G;simp only[CU]at J;split at h
 ·exact(CX h).elim
 ·obtain⟨rfl,rfl,rfl⟩:=EM h;exact⟨I,by omega,by simp;omega,by simp,by simp⟩
theorem Ks{c:Nat}{f:Eg}(z:Fc c f):Fc c (B1 f):=by
 intro d ts ns x G I F h;unfold B1 at h;split at h
 ·cases h
 ·exact z _ _ _ _ _ _ F h
theorem Ed(ns:List V)(x:Int)(l:List Rd):(Dq ns x l).length=ns.length:=by unfold Dq;simp
theorem GO{core:Eg}(G:Fc 5 core):Fc 5 (FI core):=by
 intro d ts ns x W X I h;unfold FI at h;obtain⟨y,t1,aa,J,z⟩:=bind_eq h;clear h;have h:=z;clear z;have F:=Ks G d _ _ _ _ _ I J;obtain⟨l,t2,ab,K,z⟩:=bind_eq h;clear h;have h:=z;clear z;obtain⟨L,rfl,ac⟩:=Dz F.Ak K;injection h with M N O;subst M N O;have ad:=F.len;have ae:=F.EG;have af:=F.more;exact⟨L,by omega,by rw[Ed];omega,by rw[Ed];omega,by rw[Ed];exact F.last⟩
theorem UC{G:Eg}(K:Fc 5 G)(d:Nat)(ts:List AY)(ns:List V)(x:Int)(I:List AY)(J:List V)(ab:Good ts)(L:Good ts.tail)(h:I0 G d ts ns=.ok x I J):Left 5 ts ns x I J:=by
 unfold I0 at h;obtain⟨_,t1,ac,M,z⟩:=bind_eq h;clear h;have h:=z;clear z;obtain⟨N,ad,rfl,_,_⟩:=DR L M;obtain⟨_,t2,ae,O,z⟩:=bind_eq h;clear h;have h:=z;clear z;obtain⟨W,af,rfl,_,_⟩:=DR N O;have X:=Ae W;have ag:ts.tail.length<=ts.length:=(by simp);split at h
 ·obtain⟨y,t3,ah,aa,z⟩:=bind_eq h;clear h;have h:=z;clear z;have F:=K d _ _ _ _ _ X.1 aa;have ai:=F.len;have aj:=F.EG;have ak:=F.more;obtain⟨rfl,rfl,rfl⟩:=EM h;exact⟨F.Ak,by omega,by simp;omega,by simp;omega,by simp⟩
 ·exact(CX h).elim
theorem JV{G:Eg}(I:Fc 5 G):Fc 5 (FW G):=by
 intro d ts ns x K L z h;unfold FW at h;split at h
 ·exact I d _ _ _ _ _ z h
 ·split at h
  ·rename_i F;obtain⟨t,r,rfl⟩:=z.ne;have J:Good r:=by
    cases r with
    |nil=>cases F
    |cons u r=>
     refine z.tail ?_;unfold I2 CE at F;simp at F;omega
   unfold B1 at h;split at h
   ·cases h
   ·exact UC I _ _ _ _ _ _ z J h
  ·exact Te _ _ _ _ _ z h
theorem Pe{h:Eg}(z:Fc 5 h):Fc 2 (S8 h):=fun d=>Sl (LW (IJ (JV z d)))
theorem KY{Al:DC}(F:Ki 2 Al):∀f,Ki 1 (FZ Al f):=by
 intro f;induction f with
 |zero=>intro ts ns x M N _ h;cases h
 |succ f ih=>
  intro ts ns x M N O h;rw[FZ]at h;obtain⟨a,t1,ai,W,z⟩:=bind_eq h;clear h;have h:=z;clear z;have d1:=F _ _ _ _ _ O W;have aj:=d1.len;have ak:=d1.EG;have al:=d1.more;obtain⟨_,t2,am,X,z⟩:=bind_eq h;clear h;have h:=z;clear z;obtain⟨aa,an,rfl,_,_⟩:=DR d1.Ak X;obtain⟨b,t3,ao,ab,z⟩:=bind_eq h;clear h;have h:=z;clear z;have d3:=F _ _ _ _ _ aa ab;have ap:=d3.len;have aq:=d3.EG;have ar:=d3.more;split at h
  ·rename_i G;have I:=BD d3.Ak G;obtain⟨c,t4,ac,J,z⟩:=bind_eq h;clear h;have h:=z;clear z;have d4:=ih _ _ _ _ _ I.1 J;have ad:=d4.len;have ae:=d4.EG;have af:=d4.more;obtain⟨rfl,rfl,rfl⟩:=EM h;exact⟨d4.Ak,by omega,by simp;omega,by simp;omega,by simp⟩
  ·split at h
   ·rename_i G;have I:=BD d3.Ak G;obtain⟨c,t4,ac,J,z⟩:=bind_eq h;clear h;have h:=z;clear z;have d4:=F _ _ _ _ _ I.1 J;have ad:=d4.len;have ae:=d4.EG;have af:=d4.more;obtain⟨_,t5,ag,K,z⟩:=bind_eq h;clear h;have h:=z;clear z;obtain⟨L,ah,rfl,_,_⟩:=DR d4.Ak K;obtain⟨rfl,rfl,rfl⟩:=EM h;exact⟨L,by omega,by simp;omega,by simp;omega,by simp⟩
   ·obtain⟨_,t5,ag,K,z⟩:=bind_eq h;clear h;have h:=z;clear z;obtain⟨L,ah,rfl,_,_⟩:=DR d3.Ak K;obtain⟨rfl,rfl,rfl⟩:=EM h;exact⟨L,by omega,by simp;omega,by simp;omega,by simp⟩
theorem LA:∀ {ts:List AY},Good ts->Good (BS ts)/\(Cv ts).length+(BS ts).length=ts.length
 |[],h=>⟨h,rfl⟩
 |t::r,h=>by
  unfold BS Cv;split
  ·rename_i hk;have:=LA (h.tail (by omega));exact⟨this.1,by simp only[BR];omega⟩
  ·exact⟨h,by simp⟩
theorem Mr{ts:List AY}{ns:List V}{n:V}{G:List AY}{O:List V}(W:Good ts)(h:E4 ts ns=.ok n G O):Good G/\G.length+2<=ts.length/\O=ns:=by
 obtain⟨t,r,rfl⟩:=W.ne;unfold E4 at h;simp only[]at h;split at h
 ·rename_i X;have hk:t.k≠4:=(by unfold CE at X;simp at X;omega);have aa:=Ae (W.tail hk);simp only[BR];split at h
  ·rename_i ab;have ac:=BD aa.1 ab;have ad:=LA ac.1;split at h
   ·rename_i hs;rw[GX]at hs;have F:Good (BS (AG r).tail.tail).tail\/True:=.inr trivial;have F:Good (BS (AG r).tail).tail/\(BS (AG r).tail).tail.length+1=(BS (AG r).tail).length:=by
     rcases hs with hs|hs<;>exact BD ad.1 hs
    have I:=Ae F.1;obtain⟨_,t5,ae,J,z⟩:=bind_eq h;clear h;have h:=z;clear z;obtain⟨K,af,rfl,_,_⟩:=DR I.1 J;injection h with L M N;subst L M N;exact⟨K,by omega,rfl⟩
   ·exact(CX h).elim
  ·have F:=Iu (s:=Be) aa.1;have I:=Ae F.1;obtain⟨_,t5,ae,J,z⟩:=bind_eq h;clear h;have h:=z;clear z;obtain⟨K,af,rfl,_,_⟩:=DR I.1 J;injection h with L M N;subst L M N;exact⟨K,by omega,rfl⟩
 ·exact(CX h).elim
theorem Jw{ts:List AY}{ns:List V}{s:List UInt8}{z:List AY}{F:List V}(G:Good ts)(h:Ea ts ns=.ok s z F):Good z/\z.length+1=ts.length/\F=ns/\z=ts.tail:=by
 obtain⟨t,r,rfl⟩:=G.ne;unfold Ea at h;simp only[]at h;split at h
 ·rename_i hk;injection h with I J K;subst I J K;exact⟨G.tail (by omega),rfl,rfl,rfl⟩
 ·exact(CX h).elim
theorem Tx:∀(f:Nat) (F:List (List UInt8)) (ts:List AY) (ns:List V) (l:List (List UInt8)) (z:List AY) (G:List V),Good ts->DN f F ts ns=.ok l z G->Good z/\l.length+z.length<=F.length+ts.length/\G=ns/\z.length<=ts.length:=by
 intro f;induction f with
 |zero=>intro F ts ns l z G _ h;cases h
 |succ f ih=>
  intro F ts ns l z G I h;rw[DN]at h;split at h
  ·rename_i K;have L:=BD I K;obtain⟨s,t1,aa,M,J⟩:=bind_eq h;clear h;have h:=J;clear J;obtain⟨N,ab,rfl,_⟩:=Jw L.1 M;have:=ih _ _ _ _ _ _ N h;simp only[BG,Cj]at this;exact⟨this.1,by omega,this.2.2.1,by omega⟩
  ·injection h with O W X;subst O W X;exact⟨I,BN _,rfl,BN _⟩
theorem UD{Al:DC}(I:Ki 2 Al){ts:List AY}{ns:List V}{x:Int}{h:List AY}{z:List V}(J:Good ts)(F:(if BZ (AG ts)=true then Al (AG ts) ns else .ok (-1) (AG ts) ns)=.ok x h z):Good h/\h.length<=ts.length/\z.length+10*h.length<=ns.length+10*ts.length/\ns.length<=z.length:=by
 have G:=Ae J;split at F
 ·have d:=I _ _ _ _ _ G.1 F;have N:=d.len;have O:=d.EG;have W:=d.more;exact⟨d.Ak,by omega,by omega,by omega⟩
 ·injection F with K L M;subst K L M;exact⟨G.1,G.2,by omega,BN _⟩
theorem Nu{ts:List AY}(h:Good ts):Good (if Dx ts Bz=true then ts.tail else ts)/\(if Dx ts Bz=true then ts.tail else ts).length<=ts.length:=by
 split
 ·rename_i z;have:=BD (s:=Bz) h (by unfold BT;rw[z];rfl);exact⟨this.1,by omega⟩
 ·exact⟨h,BN _⟩
theorem QD{Al:DC}(N:Ki 2 Al):∀(f:Nat) (n:V) (ts:List AY) (ns:List V) (m:V) (F:List AY) (G:List V),Good ts->Ck Al f n ts ns=.ok m F G->
  Good F/\F.length<=ts.length/\G.length+10*F.length<=ns.length+10*ts.length/\ns.length<=G.length:=by
 intro f;induction f with
 |zero=>intro n ts ns m F G _ h;cases h
 |succ f ih=>
  intro n ts ns m F G L h;rw[Ck]at h;split at h
  ·injection h with I J K;subst I J K;exact⟨L,BN _,BN _,BN _⟩
  ·have O:=Nu L;obtain⟨s,t1,ai,W,z⟩:=bind_eq h;clear h;have h:=z;clear z;obtain⟨X,aj,rfl,_⟩:=Jw O.1 W;obtain⟨p,t2,ak,aa,z⟩:=bind_eq h;clear h;have h:=z;clear z;obtain⟨ab,_,rfl,al⟩:=Tx _ _ _ _ _ _ _ X aa;obtain⟨_,t3,am,ac,z⟩:=bind_eq h;clear h;have h:=z;clear z;obtain⟨ad,c3,rfl,_,_⟩:=DR ab ac;obtain⟨x,t4,an,ae,z⟩:=bind_eq h;clear h;have h:=z;clear z;obtain⟨M,c4,d4,ao⟩:=UD N ad ae;split at h
   ·rename_i af;have ag:=BD M af;have ah:=Ae ag.1;have:=ih _ _ _ _ _ _ ah.1 h;exact⟨this.1,by omega,by omega,by omega⟩
   ·injection h with I J K;subst I J K;exact⟨M,by omega,by omega,by omega⟩
theorem PN{Al:DC}(I:Ki 2 Al){ts:List AY}{ns:List V}{m:V}{F:List AY}{G:List V}(J:Good ts)(h:EN Al ts ns=.ok m F G):Good F/\F.length+1<=ts.length/\G.length+10*F.length+10<=ns.length+10*ts.length/\ns.length<=G.length:=by
 unfold EN at h;obtain⟨s,t1,ag,K,z⟩:=bind_eq h;clear h;have h:=z;clear z;obtain⟨L,ah,rfl,_⟩:=Jw J K;have M:=Ae L;obtain⟨_,t3,ai,N,z⟩:=bind_eq h;clear h;have h:=z;clear z;obtain⟨O,c3,rfl,_,_⟩:=DR M.1 N;have W:=Ae O;obtain⟨aj,t4,ak,X,z⟩:=bind_eq h;clear h;have h:=z;clear z;obtain⟨aa,c4,d4,al⟩:=QD I _ _ _ _ _ _ _ W.1 X;obtain⟨_,t5,am,ab,z⟩:=bind_eq h;clear h;have h:=z;clear z;obtain⟨ac,an,rfl,_,_⟩:=DR aa ab;injection h with ad ae af;subst ad ae af;exact⟨ac,by omega,by omega,by omega⟩
theorem Q5{Al:DC}(G:Ki 2 Al)(s:List UInt8):Ki 0 (coreS Al s):=by
 intro ts ns x ah ai J h;unfold coreS at h;split at h
 ·obtain⟨y,t1,L,F,z⟩:=bind_eq h;clear h;have h:=z;clear z;have d1:=G _ _ _ _ _ J F;have W:=d1.len;have X:=d1.EG;have aa:=d1.more;obtain⟨_,t2,M,I,z⟩:=bind_eq h;clear h;have h:=z;clear z;obtain⟨K,ab,rfl,_,_⟩:=DR d1.Ak I;obtain⟨rfl,rfl,rfl⟩:=EM h;exact⟨K,by omega,by simp;omega,by simp;omega,by simp⟩
 ·split at h
  ·obtain⟨y,t1,L,F,z⟩:=bind_eq h;clear h;have h:=z;clear z;have d1:=G _ _ _ _ _ J F;have W:=d1.len;have X:=d1.EG;have aa:=d1.more;obtain⟨_,t2,M,I,z⟩:=bind_eq h;clear h;have h:=z;clear z;obtain⟨K,ab,rfl,_,_⟩:=DR d1.Ak I;obtain⟨rfl,rfl,rfl⟩:=EM h;exact⟨K,by omega,by simp;omega,by simp;omega,by simp⟩
  ·split at h
   ·have d:=KY G _ _ _ _ _ _ J h;have aj:=d.len;have ak:=d.EG;have al:=d.more;exact⟨d.Ak,by omega,by omega,by omega,d.last⟩
   ·split at h
    ·obtain⟨n,t1,L,F,z⟩:=bind_eq h;clear h;have h:=z;clear z;obtain⟨N,ac,rfl⟩:=Mr J F;obtain⟨y,t2,M,I,z⟩:=bind_eq h;clear h;have h:=z;clear z;have d2:=G _ _ _ _ _ N I;have am:=d2.len;have an:=d2.EG;have ao:=d2.more;obtain⟨_,t3,ad,O,z⟩:=bind_eq h;clear h;have h:=z;clear z;obtain⟨ae,c3,rfl,_,_⟩:=DR d2.Ak O;obtain⟨rfl,rfl,rfl⟩:=EM h;exact⟨ae,by omega,by simp;omega,by simp;omega,by simp⟩
    ·split at h
     ·obtain⟨n,t1,L,F,z⟩:=bind_eq h;clear h;have h:=z;clear z;obtain⟨N,ac,d1,ap⟩:=PN G J F;obtain⟨rfl,rfl,rfl⟩:=EM h;exact⟨N,by omega,by simp;omega,by simp;omega,by simp⟩
     ·obtain⟨y,t1,L,F,z⟩:=bind_eq h;clear h;have h:=z;clear z;have d1:=G _ _ _ _ _ J F;have W:=d1.len;have X:=d1.EG;have aa:=d1.more;obtain⟨_,t2,M,I,z⟩:=bind_eq h;clear h;have h:=z;clear z;obtain⟨K,ab,rfl,_,_⟩:=DR d1.Ak I;obtain⟨aq,t3,ad,O,z⟩:=bind_eq h;clear h;have h:=z;clear z;have d3:=G _ _ _ _ _ K O;have ar:=d3.len;have au:=d3.EG;have aw:=d3.more;obtain⟨_,t4,ax,af,z⟩:=bind_eq h;clear h;have h:=z;clear z;obtain⟨ag,c4,rfl,_,_⟩:=DR d3.Ak af;obtain⟨rfl,rfl,rfl⟩:=EM h;exact⟨ag,by omega,by simp;omega,by simp;omega,by simp⟩
theorem QV{Al:Eg}(F:Fc 2 Al):Fc 5 (F5 Al):=by
 intro d ts ns x I J z h;obtain⟨t,r,rfl⟩:=z.ne;unfold F5 at h;simp only[]at h;split at h
 ·cases h
 ·rename_i hk;have d1:=Q5 (F d) t.t _ _ _ _ _ (z.tail hk) h;have K:=d1.len;have L:=d1.EG;have G:=d1.more;exact⟨d1.Ak,by simp only[BR];omega,by simp only[BR];omega,G,d1.last⟩
theorem Ep:∀f,Fc 5 (core f)
 |0=>fun _ _ _ _ _ _ _ h=>by cases h
 |f+1=>QV (Pe (GO (Ep f)))
theorem Ko(f:Nat):Fc 2 (Al f):=Pe (GO (Ep f))
end Go.Proofs.YtdhfhphbkfgamaaGreat
