/- PrintTells: a part of its proof. -/
import Derived.Test.YtdhfhphbkfgamaaGreatXd
set_option maxRecDepth 100000
namespace Go.Proofs.YtdhfhphbkfgamaaGreat
section
open Lx
def DQ:List UInt8:=[33]
def F2:List UInt8:=[123]
def Cv:List UInt8:=[125]
def Fy:List UInt8:=[99,97,115,101]
def EA:List UInt8:=[100,111]
def BU:List UInt8:=[100,111,110,101]
def FN:List UInt8:=[101,108,105,102]
def FC:List UInt8:=[101,108,115,101]
def C7:List UInt8:=[101,115,97,99]
def Gr:List UInt8:=[102,105]
def I5:List UInt8:=[102,111,114]
def Oz:List UInt8:=[105,102]
def FZ:List UInt8:=[105,110]
def E8:List UInt8:=[116,104,101,110]
def DX:List UInt8:=[117,110,116,105,108]
def Dp:List UInt8:=[119,104,105,108,101]
def Fu:List UInt8:=[10]
def Cw:List UInt8:=[38]
def Bb:List UInt8:=[59]
def ED:List UInt8:=[59,59]
def Jq:List UInt8:=[38,38]
def Qc:List UInt8:=[124,124]
def Fm:List UInt8:=[124]
def Bv:List UInt8:=[40]
def DO:List UInt8:=[41]
def LD:List (List UInt8):=[DQ,F2,Cv,Fy,EA,BU,FN,FC,C7,Gr,I5,Oz,FZ,E8,DX,Dp]
def Fv:List (List UInt8):=[[60],[62],[62,62],[60,38],[62,38],[60,62],[62,124]]
def DW (s:List UInt8):Bool:=LD.contains s
structure Rd where
 fd:Int
 op:List UInt8
 wd:List UInt8
structure V where
 kind:Int
 name:List UInt8:=[]
 A5:Bool:=false
 AY:List (List UInt8):=[]
 words:List (List UInt8):=[]
 AK:List Rd:=[]
 AS:List (List (List UInt8)):=[]
 kids:List Int:=[]
def Ep (c:UInt8):Bool:=decide (97≤c.toNat∧c.toNat≤122)||decide (65≤c.toNat∧c.toNat≤90)||decide (c.toNat=95)
def GF (c:UInt8):Bool:=decide (48≤c.toNat∧c.toNat≤57)
def FY:Bool→List UInt8→Nat
 |_,[]=>0
 |f,c::r=>if(Ep c||(!f&&GF c))=true then FY false r+1 else 0
def GU (s:List UInt8):Nat:=FY true s
def CB (t:AX):Bool:=t.k==1&&GU t.t==t.t.length
inductive PR (α:Type)
 |ok (x:α) (ts:List AX) (ns:List V)
 |bad (a e:Int)
def PR.bind {α h:Type} (r:PR α) (f:α→List AX→List V→PR h):PR h:=match r with
 | .ok x ts ns=>f x ts ns
 | .bad a e=> .bad a e
theorem PR.Bj {α h:Type} (x:α) (ts:List AX) (ns:List V) (f:α→List AX→List V→PR h):(PR.ok x ts ns).bind f=f x ts ns:=rfl
theorem PR.Ku {α h:Type} (a e:Int) (f:α→List AX→List V→PR h):(PR.bad a e:PR α).bind f=.bad a e:=rfl
def Dn (ts:List AX) (s:List UInt8):Bool:=match ts with
 |t::_=>t.k==2&&t.t==s
 |[]=>false
def Fl (ts:List AX) (s:List UInt8):Bool:=match ts with
 |t::_=>t.k==1&&t.t==s
 |[]=>false
def BR (ts:List AX) (s:List UInt8):Bool:=Dn ts s||Fl ts s
def A3 (ts:List AX) (s:List UInt8):List AX:=if BR ts s=true then ts.tail else ts
def Ay {α:Type} (ts:List AX):PR α:=match ts with
 |t::_=> .bad t.a (if t.k=4 then 23 else 17)
 |[]=> .bad 0 0
def AW (s:List UInt8) (ts:List AX) (ns:List V):PR Unit:=if BR ts s=true then .ok () ts.tail ns else Ay ts
def AG:List AX→List AX
 |t::r=>if(t.k==2&&t.t==Fu)=true then AG r else t::r
 |[]=>[]
def FA (t:AX):Bool:=t.k==2&&Fv.contains t.t
def FH:List (List UInt8):=[F2,Oz,Dp,DX,I5,Fy]
def FG (t:AX):Bool:=(t.k==2&&t.t==Bv)||(t.k==1&&FH.contains t.t)
def BX (ts:List AX):Bool:=match ts with
 |t::_=>FG t||FA t||t.k==3||(t.k==1&&(t.t==DQ||t.t==FZ||!DW t.t))
 |[]=>false
def An (n:V) (ts:List AX) (ns:List V):PR Int:=.ok ns.length ts (ns++[n])
abbrev C4:=List AX→List V→PR Int
def CY (G:C4):Nat→List Int→Bool→List AX→List V→PR (List Int×Bool)
 |0,_,_,_,_=> .bad 0 0
 |f+1,kids,z,ts,ns=>(G ts ns).bind fun x ts ns=>
  let amp:=BR ts Cw
  let h:=A3 ts Cw
  let y:Int:=if amp=true then ns.length else x
  let ns:=if amp=true then ns++[{ kind:=7,kids:=[x] }]else ns
  if(amp||BR h Bb||BR h Fu)=true then
   let F:=if amp=true then h else h.tail
   if BX (AG F)=true then CY G f (kids++[y]) (z||amp) (AG F) ns else .ok (kids++[y],z||amp) (AG F) ns
  else .ok (kids++[y],z||amp) h ns
def GM (h:C4):C4:=fun ts ns=>(CY h (ts.length+1) [] false (AG ts) ns).bind fun k ts ns=>
 match k.1 with
 |[x]=>if k.2=true then An { kind:=6,kids:=[x] } (AG ts) ns else .ok x (AG ts) ns
 |l=>An { kind:=6,kids:=l } (AG ts) ns
def CR (h:C4):Nat→Int→C4
 |0,_,_,_=> .bad 0 0
 |f+1,x,ts,ns=>
  if BR ts Jq=true then(h (AG ts.tail) ns).bind fun y ts ns=>CR h f ns.length ts (ns++[{ kind:=4,kids:=[x,y] }])
  else if BR ts Qc=true then(h (AG ts.tail) ns).bind fun y ts ns=>CR h f ns.length ts (ns++[{ kind:=5,kids:=[x,y] }])
  else .ok x ts ns
def Fz (h:C4):C4:=fun ts ns=>(h ts ns).bind fun x ts ns=>CR h (ts.length+1) x ts ns
def DD (h:C4):Nat→List Int→List AX→List V→PR (List Int)
 |0,_,_,_=> .bad 0 0
 |f+1,z,ts,ns=>if BR ts Fm=true then(h (AG ts.tail) ns).bind fun y ts ns=>DD h f (z++[y]) ts ns else .ok z ts ns
def FL (b:Bool) (x:Int):C4:=fun ts ns=>if b=true then An { kind:=2,kids:=[x] } ts ns else .ok x ts ns
def FB (z:C4):C4:=fun ts ns=>(z (A3 ts DQ) ns).bind fun x h ns=>(DD z (h.length+1) [x] h ns).bind fun kids h ns=>
 if 1<kids.length then FL (BR ts DQ) ns.length h (ns++[{ kind:=3,kids:=kids }])else FL (BR ts DQ) (kids.headD 0) h ns
def Nj:List AX→Bool
 |w::_=>w.k==1||w.k==3
 |[]=>false
def Bz:Nat→List Rd→List AX→List V→PR (List Rd)
 |0,_,_,_=> .bad 0 0
 |f+1,h,ts,ns=>match ts with
  |[]=> .bad 0 0
  |t::r=>
   if(t.k==3&&FA (r.headD t))=true then
    (if Nj r.tail=true then Bz f (h++[⟨((t.t.headD 0).toNat:Int)-48,(r.headD t).t,(r.tail.headD t).t⟩]) r.tail.tail ns else Ay r.tail)
   else if FA t=true then
    (if Nj r=true then Bz f (h++[⟨-1,t.t,(r.headD t).t⟩]) r.tail ns else Ay r)
   else .ok h (t::r) ns
def CW (ts:List AX) (ns:List V):PR (List Rd):=Bz (ts.length+1) [] ts ns
def Fj (s:List UInt8):Bool:=decide (0<GU s)&&decide (GU s<s.length)&&(s.getD (GU s) 0==61)
def Ci:Nat→V→List AX→List V→PR V
 |0,_,_,_=> .bad 0 0
 |f+1,n,ts,ns=>(CW ts ns).bind fun l ts ns=>
  let n:= { n with AK:=n.AK++l }
  match ts with
  |[]=> .bad 0 0
  |t::r=>
   if t.k≠1 then .ok n ts ns
   else if 0<n.words.length then Ci f { n with words:=n.words++[t.t] } r ns
   else if Fj t.t=true then Ci f { n with AY:=n.AY++[t.t] } r ns
   else if(t.t !=FZ&&DW t.t)=true then .ok n ts ns
   else Ci f { n with words:=n.words++[t.t] } r ns
def IT:C4:=fun ts ns=>(Ci (ts.length+1) { kind:=1 } ts ns).bind fun n ts ns=>if n.AY.length+n.words.length+n.AK.length=0 then Ay ts else An n ts ns
abbrev EO:=Nat→C4
def Bw (f:EO):EO:=fun d ts ns=>if 24<d then .bad (match ts with|t::_=>(t.a:Int)|[]=>0) 17 else f (d+1) ts ns
def Dd (ns:List V) (x:Int) (l:List Rd):List V:=ns.modify x.toNat fun n=> { n with AK:=l }
def Ez (core:EO):EO:=fun d ts ns=>(Bw core d ts ns).bind fun x ts ns=>(CW ts ns).bind fun l ts ns=> .ok x ts (Dd ns x l)
def El (ts:List AX):Bool:=match ts with
 |t::_=>FG t
 |[]=>false
def XZ (ts:List AX):List UInt8:=match ts with
 |t::_=>t.t
 |[]=>[]
def IW (z:EO):EO:=fun d ts ns=>(AW Bv ts.tail ns).bind fun _ h ns=>(AW DO h ns).bind fun _ h ns=>
 if El (AG h)=true then(z d (AG h) ns).bind fun x h ns=>An { kind:=15,name:=XZ ts,kids:=[x] } h ns else Ay (AG h)
def IV (ts:List AX):Bool:=match ts with
 |t::u::_=>CB t&&!DW t.t&&u.k==2&&u.t==Bv
 |_=>false
def FE (h:EO):EO:=fun d ts ns=>if El ts=true then h d ts ns else if IV ts=true then Bw (IW h) d ts ns else IT ts ns
def SZ (h:EO):EO:=fun d=>GM (Fz (FB (FE h d)))
def E5 (Ak:C4):Nat→C4
 |0,_,_=> .bad 0 0
 |f+1,ts,ns=>(Ak ts ns).bind fun a ts ns=>(AW E8 ts ns).bind fun _ ts ns=>(Ak ts ns).bind fun b ts ns=>
  if BR ts FN=true then(E5 Ak f ts.tail ns).bind fun c ts ns=>An { kind:=10,kids:=[a,b,c] } ts ns
  else if BR ts FC=true then(Ak ts.tail ns).bind fun c ts ns=>(AW Gr ts ns).bind fun _ ts ns=>An { kind:=10,kids:=[a,b,c] } ts ns
  else(AW Gr ts ns).bind fun _ ts ns=>An { kind:=10,kids:=[a,b] } ts ns
def Co:List AX→List (List UInt8)
 |t::r=>if t.k=1 then t.t::Co r else []
 |[]=>[]
def BQ:List AX→List AX
 |t::r=>if t.k=1 then BQ r else t::r
 |[]=>[]
def Ej (ts:List AX) (ns:List V):PR V:=match ts with
 |[]=> .bad 0 0
 |t::r=>if CB t=true then
   let h:=AG r
   if BR h FZ=true then
    let z:=BQ h.tail
    if(BR z Bb||BR z Fu)=true then(AW EA (AG z.tail) ns).bind fun _ ts ns=> .ok { kind:=13,name:=t.t,A5:=true,words:=Co h.tail } ts ns
    else Ay z
   else(AW EA (AG (A3 h Bb)) ns).bind fun _ ts ns=> .ok { kind:=13,name:=t.t } ts ns
  else Ay ts
def EI (ts:List AX) (ns:List V):PR (List UInt8):=match ts with
 |t::r=>if t.k=1 then .ok t.t r ns else Ay ts
 |[]=> .bad 0 0
def C5:Nat→List (List UInt8)→List AX→List V→PR (List (List UInt8))
 |0,_,_,_=> .bad 0 0
 |f+1,h,ts,ns=>if BR ts Fm=true then(EI ts.tail ns).bind fun s ts ns=>C5 f (h++[s]) ts ns else .ok h ts ns
def Ce (Ak:C4):Nat→V→List AX→List V→PR V
 |0,_,_,_=> .bad 0 0
 |f+1,n,ts,ns=>if Fl ts C7=true then .ok n ts ns else
  (EI (if Dn ts Bv=true then ts.tail else ts) ns).bind fun s ts ns=>(C5 (ts.length+1) [s] ts ns).bind fun AS ts ns=>(AW DO ts ns).bind fun _ ts ns=>
  (if BX (AG ts)=true then Ak (AG ts) ns else .ok (-1) (AG ts) ns).bind fun body ts ns=>
  let n:= { n with AS:=n.AS++[AS],kids:=n.kids++[body] }
  if BR ts ED=true then Ce Ak f n (AG ts.tail) ns else .ok n ts ns
def D9 (Ak:C4) (ts:List AX) (ns:List V):PR V:=(EI ts ns).bind fun s ts ns=>(AW FZ (AG ts) ns).bind fun _ ts ns=>
 (Ce Ak (ts.length+1) { kind:=14,words:=[s] } (AG ts) ns).bind fun n ts ns=>(AW C7 ts ns).bind fun _ ts ns=> .ok n ts ns
def coreS (Ak:C4) (s:List UInt8):C4:=fun ts ns=>
 if s=F2 then(Ak ts ns).bind fun x ts ns=>(AW Cv ts ns).bind fun _ ts ns=>An { kind:=8,kids:=[x] } ts ns
 else if s=Bv then(Ak ts ns).bind fun x ts ns=>(AW DO ts ns).bind fun _ ts ns=>An { kind:=9,kids:=[x] } ts ns
 else if s=Oz then E5 Ak (ts.length+1) ts ns
 else if s=I5 then(Ej ts ns).bind fun n ts ns=>(Ak ts ns).bind fun x ts ns=>(AW BU ts ns).bind fun _ ts ns=>An { n with kids:=[x] } ts ns
 else if s=Fy then(D9 Ak ts ns).bind fun n ts ns=>An n ts ns
 else(Ak ts ns).bind fun x ts ns=>(AW EA ts ns).bind fun _ ts ns=>(Ak ts ns).bind fun y ts ns=>(AW BU ts ns).bind fun _ ts ns=>
  An { kind:=if s=DX then 12 else if s=Dp then 11 else 0,kids:=[x,y] } ts ns
def Fh (Ak:EO):EO:=fun d ts ns=>match ts with
 |t::r=>if t.k=4 then .bad 0 0 else coreS (Ak d) t.t r ns
 |[]=> .bad 0 0
def core:Nat→EO
 |0=>fun _ _ _=> .bad 0 0
 |f+1=>Fh (SZ (Ez (core f)))
def Ak (f:Nat):EO:=SZ (Ez (core f))
structure Ps where
 ns:List V
 a:Int
 e:Int
def Io (ts:List AX):Ps:=
 match AG ts with
 |[]=>⟨[],0,0⟩
 |t::r=>if t.k=4 then⟨[],0,0⟩else match Ak ts.length 0 (t::r) []with
  | .bad a e=>⟨[],a,e⟩
  | .ok _ ts ns=>match ts with
   |[]=>⟨[],0,0⟩
   |u::_=>if u.k≠4 then⟨[],u.a,17⟩else if 300<ns.length then⟨[],0,12⟩else⟨ns,0,0⟩
def B9 (s:List UInt8):Ps:=match Fp s with
 | .err a e=>⟨[],a,e⟩
 | .ok ts=>Io ts
end
section
open Lx
def Good (ts:List AX):Prop:= ∃p e,ts=p++[e]∧e.k=4∧ ∀t∈p,t.k≠4
theorem Good.tail {t:AX} {r:List AX} (F:Good (t::r)) (hk:t.k≠4):Good r:=by
 obtain⟨p,e,h,z,G⟩:=F;cases p with
 |nil=>simp at h;exact Ai (h.1▸z) hk
 |cons q p=>
  simp at h;exact⟨p,e,h.2,z,fun t I=>G t (List.mem_cons_of_mem _ I)⟩
theorem Good.ne {ts:List AX} (h:Good ts): ∃t r,ts=t::r:=by
 obtain⟨p,e,rfl,_,_⟩:=h;cases p with
 |nil=>exact⟨e,[],rfl⟩
 |cons q p=>exact⟨q,p++[e],rfl⟩
theorem Good.pos {ts:List AX} (h:Good ts):0<ts.length:=by
 obtain⟨t,r,rfl⟩:=h.ne;simp
theorem Lc {t:AX} {r:List AX} {s:List UInt8} (h:Dn (t::r) s=true):t.k=2∧t.t=s:=by
 unfold Dn at h;simpa using h
theorem Uf {t:AX} {r:List AX} {s:List UInt8} (h:Fl (t::r) s=true):t.k=1∧t.t=s:=by
 unfold Fl at h;simpa using h
theorem Fx {t:AX} {r:List AX} {s:List UInt8} (h:BR (t::r) s=true):t.k≠4∧t.t=s:=by
 unfold BR at h;rw[Bool.or_eq_true]at h;rcases h with h|h
 ·have:=Lc h;exact⟨by omega,this.2⟩
 ·have:=Uf h;exact⟨by omega,this.2⟩
theorem A9 {ts:List AX} {s:List UInt8} (h:Good ts) (z:BR ts s=true):Good ts.tail∧ts.tail.length+1=ts.length:=by
 obtain⟨t,r,rfl⟩:=h.ne;exact⟨h.tail (Fx z).1,rfl⟩
theorem IH {ts:List AX} {s:List UInt8} (h:Good ts):Good (A3 ts s)∧(A3 ts s).length≤ts.length:=by
 unfold A3;split
 ·have:=A9 h (by assumption);exact⟨this.1,by omega⟩
 ·exact⟨h,BL _⟩
theorem Ad: ∀ {ts:List AX},Good ts→Good (AG ts)∧(AG ts).length≤ts.length
 |[],h=>⟨h,BL _⟩
 |t::r,h=>by
  unfold AG;split
  ·rename_i z;have hk:t.k≠4:=(by simp at z;omega);have:=Ad (h.tail hk);exact⟨this.1,by simp only[BP];omega⟩
  ·exact⟨h,BL _⟩
theorem bind_eq {α h:Type} {r:PR α} {f:α→List AX→List V→PR h} {y:h} {z:List AX} {F:List V} (G:r.bind f=.ok y z F): ∃x ts ns,r=.ok x ts ns∧f x ts ns=.ok y z F:=by
 cases r with
 |ok x ts ns=>exact⟨x,ts,ns,rfl,G⟩
 |bad a e=>cases G
theorem CT {α:Type} {ts:List AX} {y:α} {z:List AX} {F:List V} (h:Ay ts=.ok y z F):False:=by
 unfold Ay at h;split at h<;>cases h
theorem DN {s:List UInt8} {ts:List AX} {ns:List V} {u:Unit} {h:List AX} {F:List V} (I:Good ts) (z:AW s ts ns=.ok u h F):Good h∧h.length+1=ts.length∧F=ns∧BR ts s=true∧h=ts.tail:=by
 unfold AW at z;split at z
 ·rename_i G;injection z with _ J K;subst J K;have:=A9 I G;exact⟨this.1,this.2,rfl,G,rfl⟩
 ·exact(CT z).elim
structure Left (c:Nat) (ts:List AX) (ns:List V) (x:Int) (ts':List AX) (ns':List V):Prop where
 Aj:Good ts'
 len:ts'.length+1≤ts.length
 Dy:ns'.length+10*ts'.length+c≤ns.length+10*ts.length
 more:ns.length<ns'.length
 last:x=(ns'.length:Int)-1
def Ju (c:Nat) (f:C4):Prop:= ∀ts ns x h z,Good ts→f ts ns=.ok x h z→Left c ts ns x h z
def FF (c:Nat) (f:EO):Prop:= ∀d,Ju c (f d)
theorem D5 {n:V} {ts:List AX} {ns:List V} {x:Int} {h:List AX} {z:List V} (F:An n ts ns=.ok x h z):x=ns.length∧h=ts∧z=ns++[n]:=by
 unfold An at F;injection F with G I J;exact⟨G.symm,I.symm,J.symm⟩
theorem Z0H {P:Prop} (h:P:=by
 have:=ih _ _ _ _ _ _ _ L.1 h;simp only[BE,Cd]at this;exact⟨this.1,by omega,by omega,by omega,by omega,by omega,this.2.2.2.2.2.2⟩):P:=h
theorem PX {ac:C4} (ae:Ju 3 ac): ∀(f:Nat) (K:List Int) (X:Bool) (ts:List AX) (ns:List V) (k:List Int×Bool) (F:List AX) (J:List V),Good ts→CY ac f K X ts ns=.ok k F J→
  Good F∧F.length+1≤ts.length∧J.length+10*F.length+3≤ns.length+10*ts.length∧ns.length<J.length∧(k.1.length+F.length≤K.length+ts.length)∧K.length<k.1.length∧k.1.getLastD 0=(J.length:Int)-1:=by
 intro f;induction f with
 |zero=>intro K X ts ns k F J _ h;cases h
 |succ f ih=>
  intro K X ts ns k F J af h;rw[CY]at h;obtain⟨x,z,ah,ag,ad⟩:=bind_eq h;clear h;have h:=ad;clear ad;have G:=ae _ _ _ _ _ af ag;have ai:=G.len;have aj:=G.Dy;have ak:=G.more;have al:=G.last;simp only[]at h;by_cases I:BR z Cw=true
  ·have aa:A3 z Cw=z.tail:=Ah I;have ab:=A9 G.Aj I;have L:=Ad ab.1;simp only[I,aa,Bool.true_or,if_true]at h;by_cases M:BX (AG z.tail)=true
   ·rw[Ah M]at h;exact Z0H
   ·rw[U M]at h;injection h with N O W;subst N O W;simp only[BE,Cd];exact⟨L.1,by omega,by omega,by omega,by omega,by omega,by simp⟩
  ·have I:BR z Cw=false:=(by simpa using I);have aa:A3 z Cw=z:=(by unfold A3;rw[I];rfl);simp only[I,aa,Bool.false_or]at h;by_cases hs:(BR z Bb||BR z Fu)=true
   ·simp only[hs,if_true]at h;have ab:Good z.tail∧z.tail.length+1=z.length:=by
     rw[Bool.or_eq_true]at hs;rcases hs with hs|hs<;>exact A9 G.Aj hs
    have L:=Ad ab.1;simp only[Bool.false_eq_true,if_false]at h;by_cases M:BX (AG z.tail)=true
    ·rw[Ah M]at h;exact Z0H
    ·rw[U M]at h;injection h with N O W;subst N O W;simp only[BE,Cd];exact⟨L.1,by omega,by omega,by omega,by omega,by omega,by simp;omega⟩
   ·have hs:(BR z Bb||BR z Fu)=false:=(by simpa using hs);simp only[hs,Bool.false_eq_true,if_false]at h;injection h with N O W;subst N O W;simp only[BE,Cd];exact⟨G.Aj,by omega,by omega,by omega,by omega,by omega,by simp;omega⟩
theorem SM {F:C4} (J:Ju 3 F):Ju 2 (GM F):=by
 intro ts ns x aa ab K h;unfold GM at h;obtain⟨k,ac,ad,L,G⟩:=bind_eq h;clear h;have h:=G;clear G;have M:=Ad K;obtain⟨N,ae,af,ag,ah,ai,I⟩:=PX J _ _ _ _ _ _ _ _ M.1 L;have z:=Ad N;split at h
 ·rename_i aj hk;split at h
  ·obtain⟨rfl,rfl,rfl⟩:=D5 h;exact⟨z.1,by omega,by simp;omega,by simp;omega,by simp⟩
  ·injection h with O W X;subst O W X;rw[hk]at I;exact⟨z.1,by omega,by omega,by omega,I⟩
 ·obtain⟨rfl,rfl,rfl⟩:=D5 h;exact⟨z.1,by omega,by simp;omega,by simp;omega,by simp⟩
theorem Z0D {P:Prop} (h:P:=by
 have L:=A9 J K;have M:=Ad L.1;obtain⟨X,aa,ab,N,I⟩:=bind_eq h;clear h;have h:=I;clear I;have z:=W _ _ _ _ _ M.1 N;have ac:=z.len;have ad:=z.Dy;have ae:=z.more;have:=ih _ _ _ _ _ _ z.Aj (by simp) h;simp only[BE,Cd]at this;exact⟨this.1,by omega,by omega,by omega,this.2.2.2.2⟩):P:=h
theorem QW {O:C4} (W:Ju 3 O): ∀(f:Nat) (x:Int) (ts:List AX) (ns:List V) (y:Int) (F:List AX) (G:List V),Good ts→x=(ns.length:Int)-1→CR O f x ts ns=.ok y F G→
  Good F∧F.length≤ts.length∧G.length+10*F.length≤ns.length+10*ts.length∧ns.length≤G.length∧y=(G.length:Int)-1:=by
 intro f;induction f with
 |zero=>intro x ts ns y F G _ _ h;cases h
 |succ f ih=>
  intro x ts ns y F G J hx h;rw[CR]at h;split at h
  ·rename_i K;exact Z0D
  ·split at h
   ·rename_i K;exact Z0D
   ·injection h with af ag ah;subst af ag ah;exact⟨J,BL _,BL _,BL _,hx⟩
theorem KZ {F:C4} (G:Ju 3 F):Ju 3 (Fz F):=by
 intro ts ns x N O J h;unfold Fz at h;obtain⟨k,W,X,K,I⟩:=bind_eq h;clear h;have h:=I;clear I;have z:=G _ _ _ _ _ J K;have aa:=z.len;have ab:=z.Dy;have ac:=z.more;obtain⟨L,ad,ae,af,M⟩:=QW G _ _ _ _ _ _ _ z.Aj z.last h;exact⟨L,by omega,by omega,by omega,M⟩
theorem PW {J:C4} (N:Ju 5 J): ∀(f:Nat) (h:List Int) (ts:List AX) (ns:List V) (k:List Int) (F:List AX) (G:List V),Good ts→h.getLastD 0=(ns.length:Int)-1→DD J f h ts ns=.ok k F G→
  Good F∧F.length≤ts.length∧G.length+10*F.length≤ns.length+10*ts.length∧ns.length≤G.length∧h.length≤k.length∧k.length+F.length≤h.length+ts.length∧k.getLastD 0=(G.length:Int)-1∧k.headD 0=(if h=[]then k.headD 0 else h.headD 0):=by
 intro f;induction f with
 |zero=>intro h ts ns k F G _ _ z;cases z
 |succ f ih=>
  intro h ts ns k F G K hk z;rw[DD]at z;split at z
  ·rename_i O;have W:=A9 K O;have X:=Ad W.1;obtain⟨ae,af,ag,aa,L⟩:=bind_eq z;clear z;have z:=L;clear L;have I:=N _ _ _ _ _ X.1 aa;have ah:=I.len;have ai:=I.Dy;have aj:=I.more;have:=ih _ _ _ _ _ _ I.Aj (by simp;exact I.last) z;simp only[BE,Cd]at this;refine⟨this.1,by omega,by omega,by omega,by omega,by omega,this.2.2.2.2.2.2.1,?_⟩;have M:=this.2.2.2.2.2.2.2;cases h with
   |nil=>rfl
   |cons q l=>rw[U (by simp)]at M⊢;exact M
  ·injection z with ab ac ad;subst ab ac ad;refine⟨K,BL _,BL _,BL _,BL _,BL _,hk,by split<;>rfl⟩
theorem O8 {b:Bool} {x y:Int} {ts F:List AX} {ns h:List V} (hx:x=(ns.length:Int)-1) (z:FL b x ts ns=.ok y F h):F=ts∧h.length≤ns.length+1∧ns.length≤h.length∧y=(h.length:Int)-1:=by
 unfold FL at z;split at z
 ·obtain⟨rfl,rfl,rfl⟩:=D5 z;exact⟨rfl,by simp,by simp,by simp⟩
 ·injection z with G I J;subst G I J;exact⟨rfl,by omega,BL _,hx⟩
theorem He {I:C4} (J:Ju 5 I):Ju 3 (FB I):=by
 intro ts ns x ad ae N h;unfold FB at h;obtain⟨y,af,ag,O,z⟩:=bind_eq h;clear h;have h:=z;clear z;have W:=IH (s:=DQ) N;have F:=J _ _ _ _ _ W.1 O;have ah:=F.len;have ai:=F.Dy;have aj:=F.more;obtain⟨k,ak,al,X,z⟩:=bind_eq h;clear h;have h:=z;clear z;obtain⟨K,am,an,ao,aa,ap,ab,aq⟩:=PW J _ _ _ _ _ _ _ F.Aj (by simp;exact F.last) X;split at h
 ·obtain⟨rfl,L,M,G⟩:=O8 (by simp) h;simp only[BE,Cd]at L M;exact⟨K,by omega,by omega,by omega,G⟩
 ·rename_i ar;have ac:k.length=1:=(by simp only[Cd]at aa;omega);obtain⟨au,rfl⟩:=List.length_eq_one_iff.1 ac;obtain⟨rfl,L,M,G⟩:=O8 (by simpa using ab) h;exact⟨K,by omega,by omega,by omega,G⟩
theorem Z0F {P:Prop} (h:P:=by
 obtain⟨w,r,rfl⟩:=J.ne;split at h
 ·rename_i K;have N:=J.tail (by unfold Nj at K;simp at K;omega);have:=ih _ _ _ _ _ _ N h;simp only[BE,Cd,List.tail_cons]at this;simp only[BP];exact⟨this.1,this.2.1,by omega,by omega⟩
 ·exact(CT h).elim):P:=h
theorem OK: ∀(f:Nat) (F:List Rd) (ts:List AX) (ns:List V) (l:List Rd) (G:List AX) (L:List V),Good ts→Bz f F ts ns=.ok l G L→
  Good G∧L=ns∧F.length≤l.length∧l.length+G.length≤F.length+ts.length:=by
 intro f;induction f with
 |zero=>intro F ts ns l G L _ h;cases h
 |succ f ih=>
  intro F ts ns l G L M h;obtain⟨t,r,rfl⟩:=M.ne;rw[Bz]at h;split at h
  ·rename_i I;rw[Bool.and_eq_true]at I;have hk:t.k=3:=(by simpa using I.1);have O:=M.tail (by omega);obtain⟨o,r,rfl⟩:=O.ne;have W:o.k=2:=by
    have z:=I.2;unfold FA at z;rw[Bool.and_eq_true]at z;simpa using z.1
   have J:=O.tail (by omega);exact Z0F
  ·split at h
   ·rename_i z;unfold FA at z;rw[Bool.and_eq_true]at z;have W:t.k=2:=(by simpa using z.1);have J:=M.tail (by omega);exact Z0F
   ·injection h with X aa I;subst X aa I;exact⟨M,rfl,BL _,BL _⟩
theorem Dg {ts:List AX} {ns:List V} {l:List Rd} {h:List AX} {z:List V} (F:Good ts) (G:CW ts ns=.ok l h z):Good h∧z=ns∧l.length+h.length≤ts.length:=by
 have:=OK _ _ _ _ _ _ _ F G;exact⟨this.1,this.2.1,by simpa using this.2.2.2⟩
theorem Z0I {P:Prop} (h:P:=by
 simp only[BE,Cd]at this;exact⟨this.1,this.2.1,by omega⟩):P:=h
theorem SQ: ∀(f:Nat) (n:V) (ts:List AX) (ns:List V) (m:V) (z:List AX) (F:List V),Good ts→Ci f n ts ns=.ok m z F→
  Good z∧F=ns∧m.AY.length+m.words.length+m.AK.length+z.length≤n.AY.length+n.words.length+n.AK.length+ts.length:=by
 intro f;induction f with
 |zero=>intro n ts ns l z F _ h;cases h
 |succ f ih=>
  intro n ts ns m z F M h;rw[Ci]at h;obtain⟨l,ab,J,N,K⟩:=bind_eq h;clear h;have h:=K;clear K;obtain⟨G,rfl,O⟩:=Dg M N;obtain⟨t,r,rfl⟩:=G.ne;simp only[BP]at O;simp only[]at h;have L: ∀ {m:V} {z:List AX} {F:List V},PR.ok { n with AK:=n.AK++l } (t::r) J=.ok m z F→Good z∧F=J∧m.AY.length+m.words.length+m.AK.length+z.length≤n.AY.length+n.words.length+n.AK.length+ts.length:=by
   intro m z F h;injection h with W X aa;subst W X aa;simp only[BE,BP];exact⟨G,by trivial,by omega⟩
  split at h
  ·exact L h
  ·rename_i hk;have I:=G.tail (by omega);split at h
   ·have:=ih _ _ _ _ _ _ I h;exact Z0I
   ·split at h
    ·have:=ih _ _ _ _ _ _ I h;exact Z0I
    ·split at h
     ·exact L h
     ·have:=ih _ _ _ _ _ _ I h;exact Z0I
theorem Ss:Ju 5 IT:=by
 intro ts ns x K L F h;unfold IT at h;obtain⟨m,M,N,G,z⟩:=bind_eq h;clear h;have h:=z;clear z;obtain⟨I,rfl,J⟩:=SQ _ _ _ _ _ _ _ F G;simp only[List.length_nil]at J;split at h
 ·exact(CT h).elim
 ·obtain⟨rfl,rfl,rfl⟩:=D5 h;exact⟨I,by omega,by simp;omega,by simp,by simp⟩
theorem Kl {c:Nat} {f:EO} (z:FF c f):FF c (Bw f):=by
 intro d ts ns x G I F h;unfold Bw at h;split at h
 ·cases h
 ·exact z _ _ _ _ _ _ F h
theorem EN (ns:List V) (x:Int) (l:List Rd):(Dd ns x l).length=ns.length:=by unfold Dd;simp
theorem F1 {core:EO} (G:FF 5 core):FF 5 (Ez core):=by
 intro d ts ns x W X I h;unfold Ez at h;obtain⟨y,aa,ab,J,z⟩:=bind_eq h;clear h;have h:=z;clear z;have F:=Kl G d _ _ _ _ _ I J;obtain⟨l,ac,ad,K,z⟩:=bind_eq h;clear h;have h:=z;clear z;obtain⟨L,rfl,ae⟩:=Dg F.Aj K;injection h with M N O;subst M N O;have af:=F.len;have ag:=F.Dy;have ah:=F.more;exact⟨L,by omega,by rw[EN];omega,by rw[EN];omega,by rw[EN];exact F.last⟩
theorem Z0J {P:Prop} (h:P:=by
 obtain⟨rfl,rfl,rfl⟩:=D5 h;exact⟨F.Aj,by omega,by simp;omega,by simp;omega,by simp⟩):P:=h
theorem Sv {G:EO} (K:FF 5 G) (d:Nat) (ts:List AX) (ns:List V) (x:Int) (I:List AX) (J:List V) (ab:Good ts) (L:Good ts.tail) (h:IW G d ts ns=.ok x I J):Left 5 ts ns x I J:=by
 unfold IW at h;obtain⟨_,ac,ad,M,z⟩:=bind_eq h;clear h;have h:=z;clear z;obtain⟨N,ae,rfl,_,_⟩:=DN L M;obtain⟨_,af,ag,O,z⟩:=bind_eq h;clear h;have h:=z;clear z;obtain⟨W,ah,rfl,_,_⟩:=DN N O;have X:=Ad W;have ai:ts.tail.length≤ts.length:=(by simp);split at h
 ·obtain⟨y,aj,ak,aa,z⟩:=bind_eq h;clear h;have h:=z;clear z;have F:=K d _ _ _ _ _ X.1 aa;have al:=F.len;have am:=F.Dy;have an:=F.more;exact Z0J
 ·exact(CT h).elim
theorem Iy {G:EO} (I:FF 5 G):FF 5 (FE G):=by
 intro d ts ns x K L z h;unfold FE at h;split at h
 ·exact I d _ _ _ _ _ z h
 ·split at h
  ·rename_i F;obtain⟨t,r,rfl⟩:=z.ne;have J:Good r:=by
    cases r with
    |nil=>cases F
    |cons u r=>
     refine z.tail ?_;unfold IV CB at F;simp at F;omega
   unfold Bw at h;split at h
   ·cases h
   ·exact Sv I _ _ _ _ _ _ z J h
  ·exact Ss _ _ _ _ _ z h
theorem O2 {h:EO} (z:FF 5 h):FF 2 (SZ h):=fun d=>SM (KZ (He (Iy z d)))
theorem Z0K {P:Prop} (h:P:=by
 obtain⟨rfl,rfl,rfl⟩:=D5 h;exact⟨O,by omega,by simp;omega,by simp;omega,by simp⟩):P:=h
theorem Jz {Ak:C4} (J:Ju 2 Ak): ∀f,Ju 1 (E5 Ak f):=by
 intro f;induction f with
 |zero=>intro ts ns x W X _ h;cases h
 |succ f ih=>
  intro ts ns x W X aa h;rw[E5]at h;obtain⟨a,an,ao,ab,z⟩:=bind_eq h;clear h;have h:=z;clear z;have I:=J _ _ _ _ _ aa ab;have ap:=I.len;have aq:=I.Dy;have ar:=I.more;obtain⟨_,au,aw,ac,z⟩:=bind_eq h;clear h;have h:=z;clear z;obtain⟨ad,ax,rfl,_,_⟩:=DN I.Aj ac;obtain⟨b,ay,az,ae,z⟩:=bind_eq h;clear h;have h:=z;clear z;have G:=J _ _ _ _ _ ad ae;have aA:=G.len;have aB:=G.Dy;have aC:=G.more;split at h
  ·rename_i K;have L:=A9 G.Aj K;obtain⟨c,af,ag,M,z⟩:=bind_eq h;clear h;have h:=z;clear z;have F:=ih _ _ _ _ _ L.1 M;have ah:=F.len;have ai:=F.Dy;have aj:=F.more;exact Z0J
  ·split at h
   ·rename_i K;have L:=A9 G.Aj K;obtain⟨c,af,ag,M,z⟩:=bind_eq h;clear h;have h:=z;clear z;have F:=J _ _ _ _ _ L.1 M;have ah:=F.len;have ai:=F.Dy;have aj:=F.more;obtain⟨_,ak,al,N,z⟩:=bind_eq h;clear h;have h:=z;clear z;obtain⟨O,am,rfl,_,_⟩:=DN F.Aj N;exact Z0K
   ·obtain⟨_,ak,al,N,z⟩:=bind_eq h;clear h;have h:=z;clear z;obtain⟨O,am,rfl,_,_⟩:=DN G.Aj N;exact Z0K
theorem Kn: ∀ {ts:List AX},Good ts→Good (BQ ts)∧(Co ts).length+(BQ ts).length=ts.length
 |[],h=>⟨h,rfl⟩
 |t::r,h=>by
  unfold BQ Co;split
  ·rename_i hk;have:=Kn (h.tail (by omega));exact⟨this.1,by simp only[BP];omega⟩
  ·exact⟨h,by simp⟩
theorem Z0G {P:Prop} (h:P:=by
 have I:=Ad F.1;obtain⟨_,ae,af,J,z⟩:=bind_eq h;clear h;have h:=z;clear z;obtain⟨K,ag,rfl,_,_⟩:=DN I.1 J;injection h with L M N;subst L M N;exact⟨K,by omega,rfl⟩):P:=h
theorem MU {ts:List AX} {ns:List V} {n:V} {G:List AX} {O:List V} (W:Good ts) (h:Ej ts ns=.ok n G O):Good G∧G.length+2≤ts.length∧O=ns:=by
 obtain⟨t,r,rfl⟩:=W.ne;unfold Ej at h;simp only[]at h;split at h
 ·rename_i X;have hk:t.k≠4:=(by unfold CB at X;simp at X;omega);have aa:=Ad (W.tail hk);simp only[BP];split at h
  ·rename_i ab;have ac:=A9 aa.1 ab;have ad:=Kn ac.1;split at h
   ·rename_i hs;rw[Bool.or_eq_true]at hs;have F:Good (BQ (AG r).tail.tail).tail∨True:=.inr trivial;have F:Good (BQ (AG r).tail).tail∧(BQ (AG r).tail).tail.length+1=(BQ (AG r).tail).length:=by
     rcases hs with hs|hs<;>exact A9 ad.1 hs
    exact Z0G
   ·exact(CT h).elim
  ·have F:=IH (s:=Bb) aa.1;exact Z0G
 ·exact(CT h).elim
theorem JU {ts:List AX} {ns:List V} {s:List UInt8} {z:List AX} {F:List V} (G:Good ts) (h:EI ts ns=.ok s z F):Good z∧z.length+1=ts.length∧F=ns∧z=ts.tail:=by
 obtain⟨t,r,rfl⟩:=G.ne;unfold EI at h;simp only[]at h;split at h
 ·rename_i hk;injection h with I J K;subst I J K;exact⟨G.tail (by omega),rfl,rfl,rfl⟩
 ·exact(CT h).elim
theorem UH: ∀(f:Nat) (F:List (List UInt8)) (ts:List AX) (ns:List V) (l:List (List UInt8)) (z:List AX) (G:List V),Good ts→C5 f F ts ns=.ok l z G→Good z∧l.length+z.length≤F.length+ts.length∧G=ns∧z.length≤ts.length:=by
 intro f;induction f with
 |zero=>intro F ts ns l z G _ h;cases h
 |succ f ih=>
  intro F ts ns l z G I h;rw[C5]at h;split at h
  ·rename_i K;have L:=A9 I K;obtain⟨s,aa,ab,M,J⟩:=bind_eq h;clear h;have h:=J;clear J;obtain⟨N,ac,rfl,_⟩:=JU L.1 M;have:=ih _ _ _ _ _ _ N h;simp only[BE,Cd]at this;exact⟨this.1,by omega,this.2.2.1,by omega⟩
  ·injection h with O W X;subst O W X;exact⟨I,BL _,rfl,BL _⟩
theorem Tz {Ak:C4} (I:Ju 2 Ak) {ts:List AX} {ns:List V} {x:Int} {h:List AX} {z:List V} (J:Good ts) (F:(if BX (AG ts)=true then Ak (AG ts) ns else .ok (-1) (AG ts) ns)=.ok x h z):Good h∧h.length≤ts.length∧z.length+10*h.length≤ns.length+10*ts.length∧ns.length≤z.length:=by
 have G:=Ad J;split at F
 ·have d:=I _ _ _ _ _ G.1 F;have N:=d.len;have O:=d.Dy;have W:=d.more;exact⟨d.Aj,by omega,by omega,by omega⟩
 ·injection F with K L M;subst K L M;exact⟨G.1,G.2,by omega,BL _⟩
theorem NZ {ts:List AX} (h:Good ts):Good (if Dn ts Bv=true then ts.tail else ts)∧(if Dn ts Bv=true then ts.tail else ts).length≤ts.length:=by
 split
 ·rename_i z;have:=A9 (s:=Bv) h (by unfold BR;rw[z];rfl);exact⟨this.1,by omega⟩
 ·exact⟨h,BL _⟩
theorem Po {Ak:C4} (N:Ju 2 Ak): ∀(f:Nat) (n:V) (ts:List AX) (ns:List V) (m:V) (F:List AX) (G:List V),Good ts→Ce Ak f n ts ns=.ok m F G→
  Good F∧F.length≤ts.length∧G.length+10*F.length≤ns.length+10*ts.length∧ns.length≤G.length:=by
 intro f;induction f with
 |zero=>intro n ts ns m F G _ h;cases h
 |succ f ih=>
  intro n ts ns m F G L h;rw[Ce]at h;split at h
  ·injection h with I J K;subst I J K;exact⟨L,BL _,BL _,BL _⟩
  ·have O:=NZ L;obtain⟨s,ai,aj,W,z⟩:=bind_eq h;clear h;have h:=z;clear z;obtain⟨X,ak,rfl,_⟩:=JU O.1 W;obtain⟨p,al,am,aa,z⟩:=bind_eq h;clear h;have h:=z;clear z;obtain⟨ab,_,rfl,an⟩:=UH _ _ _ _ _ _ _ X aa;obtain⟨_,ao,ap,ac,z⟩:=bind_eq h;clear h;have h:=z;clear z;obtain⟨ad,c3,rfl,_,_⟩:=DN ab ac;obtain⟨x,aq,ar,ae,z⟩:=bind_eq h;clear h;have h:=z;clear z;obtain⟨M,c4,au,aw⟩:=Tz N ad ae;split at h
   ·rename_i af;have ag:=A9 M af;have ah:=Ad ag.1;have:=ih _ _ _ _ _ _ ah.1 h;exact⟨this.1,by omega,by omega,by omega⟩
   ·injection h with I J K;subst I J K;exact⟨M,by omega,by omega,by omega⟩
theorem Oy {Ak:C4} (I:Ju 2 Ak) {ts:List AX} {ns:List V} {m:V} {F:List AX} {G:List V} (J:Good ts) (h:D9 Ak ts ns=.ok m F G):Good F∧F.length+1≤ts.length∧G.length+10*F.length+10≤ns.length+10*ts.length∧ns.length≤G.length:=by
 unfold D9 at h;obtain⟨s,ag,ah,K,z⟩:=bind_eq h;clear h;have h:=z;clear z;obtain⟨L,ai,rfl,_⟩:=JU J K;have M:=Ad L;obtain⟨_,aj,ak,N,z⟩:=bind_eq h;clear h;have h:=z;clear z;obtain⟨O,c3,rfl,_,_⟩:=DN M.1 N;have W:=Ad O;obtain⟨al,am,an,X,z⟩:=bind_eq h;clear h;have h:=z;clear z;obtain⟨aa,c4,ao,ap⟩:=Po I _ _ _ _ _ _ _ W.1 X;obtain⟨_,aq,ar,ab,z⟩:=bind_eq h;clear h;have h:=z;clear z;obtain⟨ac,au,rfl,_,_⟩:=DN aa ab;injection h with ad ae af;subst ad ae af;exact⟨ac,by omega,by omega,by omega⟩
theorem Z0E {P:Prop} (h:P:=by
 clear h;have h:=z;clear z;have F:=I _ _ _ _ _ K G;have ad:=F.len;have ae:=F.Dy;have af:=F.more;obtain⟨_,X,aa,J,z⟩:=bind_eq h;clear h;have h:=z;clear z;obtain⟨L,ag,rfl,_,_⟩:=DN F.Aj J;obtain⟨rfl,rfl,rfl⟩:=D5 h;exact⟨L,by omega,by simp;omega,by simp;omega,by simp⟩):P:=h
theorem Pj {Ak:C4} (I:Ju 2 Ak) (s:List UInt8):Ju 0 (coreS Ak s):=by
 intro ts ns x an ao K h;unfold coreS at h;split at h
 ·obtain⟨y,M,N,G,z⟩:=bind_eq h;exact Z0E
 ·split at h
  ·obtain⟨y,M,N,G,z⟩:=bind_eq h;exact Z0E
  ·split at h
   ·have d:=Jz I _ _ _ _ _ _ K h;have ap:=d.len;have aq:=d.Dy;have ar:=d.more;exact⟨d.Aj,by omega,by omega,by omega,d.last⟩
   ·split at h
    ·obtain⟨n,M,N,G,z⟩:=bind_eq h;clear h;have h:=z;clear z;obtain⟨ab,ah,rfl⟩:=MU K G;obtain⟨y,X,aa,J,z⟩:=bind_eq h;clear h;have h:=z;clear z;have O:=I _ _ _ _ _ ab J;have au:=O.len;have aw:=O.Dy;have ax:=O.more;obtain⟨_,ai,aj,ac,z⟩:=bind_eq h;clear h;have h:=z;clear z;obtain⟨ak,c3,rfl,_,_⟩:=DN O.Aj ac;obtain⟨rfl,rfl,rfl⟩:=D5 h;exact⟨ak,by omega,by simp;omega,by simp;omega,by simp⟩
    ·split at h
     ·obtain⟨n,M,N,G,z⟩:=bind_eq h;clear h;have h:=z;clear z;obtain⟨ab,ah,F,ay⟩:=Oy I K G;obtain⟨rfl,rfl,rfl⟩:=D5 h;exact⟨ab,by omega,by simp;omega,by simp;omega,by simp⟩
     ·obtain⟨y,M,N,G,z⟩:=bind_eq h;clear h;have h:=z;clear z;have F:=I _ _ _ _ _ K G;have ad:=F.len;have ae:=F.Dy;have af:=F.more;obtain⟨_,X,aa,J,z⟩:=bind_eq h;clear h;have h:=z;clear z;obtain⟨L,ag,rfl,_,_⟩:=DN F.Aj J;obtain⟨az,ai,aj,ac,z⟩:=bind_eq h;clear h;have h:=z;clear z;have W:=I _ _ _ _ _ L ac;have aA:=W.len;have aB:=W.Dy;have aC:=W.more;obtain⟨_,aD,aE,al,z⟩:=bind_eq h;clear h;have h:=z;clear z;obtain⟨am,c4,rfl,_,_⟩:=DN W.Aj al;obtain⟨rfl,rfl,rfl⟩:=D5 h;exact⟨am,by omega,by simp;omega,by simp;omega,by simp⟩
theorem QN {Ak:EO} (G:FF 2 Ak):FF 5 (Fh Ak):=by
 intro d ts ns x J K F h;obtain⟨t,r,rfl⟩:=F.ne;unfold Fh at h;simp only[]at h;split at h
 ·cases h
 ·rename_i hk;have z:=Pj (G d) t.t _ _ _ _ _ (F.tail hk) h;have L:=z.len;have M:=z.Dy;have I:=z.more;exact⟨z.Aj,by simp only[BP];omega,by simp only[BP];omega,I,z.last⟩
theorem ES: ∀f,FF 5 (core f)
 |0=>fun _ _ _ _ _ _ _ h=>by cases h
 |f+1=>QN (O2 (F1 (ES f)))
theorem KY (f:Nat):FF 2 (Ak f):=O2 (F1 (ES f))
end
end Go.Proofs.YtdhfhphbkfgamaaGreat
