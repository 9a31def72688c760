/- PrintTells: a part of its proof. -/
import Derived.Test.YtdhfhphbkfgamaaGreatPa
set_option maxRecDepth 100000
namespace Go.Proofs.YtdhfhphbkfgamaaGreat
open Lx
structure R8 (L:Nat) (t:AX):Prop where
 len:t.t.length≤4096
 io:t.k=3→ ∃c,t.t=[c]∧48≤c.toNat∧c.toNat≤57
 wd:t.k=1→ ∃c r,t.t=c::r∧C3 DA c=false
 sg:t.k=2→t.t∈Dr
 kk:t.k=1∨t.k=2∨t.k=3
 at_:t.a≤L
theorem CD {r:Rs} {k a:Nat} (h:r.add k=.deep a): ∃m,r=.deep m∧a=k+m:=by
 cases r with
 |ok m=>cases h
 |more=>cases h
 |deep m=>injection h with h;exact⟨m,rfl,by omega⟩
theorem I6 (c:UInt8) (esc:Bool): ∀(t:List UInt8) (a:Nat),BT c esc t≠.deep a
 |[],a,h=>by cases h
 |[b],a,h=>by
  unfold BT at h;split at h
  ·cases h
  ·split at h
   ·cases h
   ·cases h
 |b::d::r,a,h=>by
  unfold BT at h;split at h
  ·obtain⟨m,z,rfl⟩:=CD h;exact I6 c esc r m z
  ·split at h
   ·cases h
   ·obtain⟨m,z,rfl⟩:=CD h;exact I6 c esc (d::r) m z
theorem S8: ∀(t:List UInt8) (o a:Nat),Bn o t≠.deep a:=by
 intro t;induction t with
 |nil=>intro o a h;cases o<;>cases h
 |cons b r ih=>
  intro o a h;have F:Bn o (b::r)=if b=40 then(Bn (o+1) r).add 1 else if b≠41 then(Bn o r).add 1 else if 0<o then(Bn (o-1) r).add 1 else if r.take 1=[41]then .ok 2 else(Bn o r).add 1:=(by cases o<;>rfl);rw[F]at h;split at h
  ·obtain⟨m,z,rfl⟩:=CD h;exact ih _ _ z
  ·split at h
   ·obtain⟨m,z,rfl⟩:=CD h;exact ih _ _ z
   ·split at h
    ·obtain⟨m,z,rfl⟩:=CD h;exact ih _ _ z
    ·split at h
     ·cases h
     ·obtain⟨m,z,rfl⟩:=CD h;exact ih _ _ z
theorem Z1g {P:Prop} (h:P:=by
 have:=ih r.length (by omega) r _ _ rfl z;omega):P:=h
theorem Pp {I:List UInt8→Rs} (J: ∀t n,I t=.deep n→n≤t.length) (e:UInt8) (K:List UInt8): ∀(F:Nat) (t:List UInt8) (o n:Nat),t.length=F→BJ I e K o t=.deep n→n≤t.length:=by
 intro F;induction F using Nat.strongRecOn with
 |ind F ih=>
  intro t o n G h;match t,G with
  |[],_=>rw[EH]at h;cases h
  |c::r,G=>
   rw[BP]at G⊢;rw[FD]at h;split at h
   ·split at h
    ·cases h
    ·obtain⟨m,z,rfl⟩:=CD h;exact Z1g
   ·split at h
    ·obtain⟨m,z,rfl⟩:=CD h;exact Z1g
    ·split at h
     ·obtain⟨m,z,rfl⟩:=CD h;exact Z1g
     ·split at h
      ·cases h
      ·rename_i a L;injection h with h;subst h;have:=J _ _ L;simpa using this
      ·rename_i q N;obtain⟨m,z,rfl⟩:=CD h;have O:(r.drop (q-1)).length=r.length-(q-1):=Dq ..;have:=ih (r.drop (q-1)).length (by omega) _ _ _ rfl z;by_cases W:q-1≤r.length
       ·omega
       ·exfalso;have M:r.drop (q-1)=[]:=List.drop_eq_nil_of_le (by omega);rw[M,EH]at z;cases z
theorem Z1e {P:Prop} (h:P:=by
 have I:=Lx.take_len J;obtain⟨m,F,rfl⟩:=CD h;have:=G _ _ _ _ _ _ _ rfl F;rw[Dq]at this;simp at I;omega):P:=h
theorem S5: ∀(lv:Nat) (q:Bool) (t:List UInt8) (n:Nat),Ac lv q t=.deep n→n≤t.length:=by
 intro lv;induction lv with
 |zero=>
  intro q t n h;unfold Ac at h;split at h
  ·injection h with h;omega
  ·cases h
 |succ lv ih=>
  intro q t n h;unfold Ac at h;have G:=fun q e p=>Pp (ih q) e p
  split at h
  ·split at h
   ·split at h<;>cases h
   ·split at h
    ·obtain⟨m,F,rfl⟩:=CD h;exact Ai F (I6 _ _ _ _)
    ·split at h
     ·obtain⟨m,F,rfl⟩:=CD h;exact Ai F (I6 _ _ _ _)
     ·split at h
      ·rename_i J;exact Z1e
      ·split at h
       ·obtain⟨m,F,rfl⟩:=CD h;exact Ai F (S8 _ _ _)
       ·split at h
        ·rename_i J;exact Z1e
        ·rename_i z K L M N W O;have I:2≤t.length:=by
          unfold Df at z;simp only[Bool.or_eq_true,decide_eq_true_eq,Bool.and_eq_true]at z;rcases z with(((z|z)|z)|z)|⟨_,z|z⟩
          ·exact(K z).elim
          ·exact(L z).elim
          ·exact(O z).elim
          ·have:=Lx.take_len z;simpa using this
          ·exact(M z).elim
          ·exact(N z).elim
         split at h
         ·obtain⟨m,F,rfl⟩:=CD h;have:=G _ _ _ _ _ _ _ rfl F;rw[Dq]at this;omega
         ·obtain⟨m,F,rfl⟩:=CD h;have:=G _ _ _ _ _ _ _ rfl F;rw[Dq]at this;omega
  ·cases h
theorem TA: ∀(z:Nat) (t:List UInt8) (n:Nat),t.length=z→De t=.deep n→n≤t.length:=by
 intro z;induction z using Nat.strongRecOn with
 |ind z ih=>
  intro t n F h;match t,F with
  |[],_=>rw[Fi]at h;cases h
  |c::r,F=>
   rw[BP]at F⊢;rw[Et]at h;split at h
   ·cases h
   ·split at h
    ·cases h
    ·rename_i a I;injection h with h;subst h;have:=S5 _ _ _ _ I;simpa using this
    ·rename_i q K;obtain⟨m,G,rfl⟩:=CD h;have L:(r.drop (q-1)).length=r.length-(q-1):=Dq ..;have:=ih (r.drop (q-1)).length (by omega) _ _ rfl G;by_cases M:q-1≤r.length
     ·omega
     ·exfalso;have J:r.drop (q-1)=[]:=List.drop_eq_nil_of_le (by omega);rw[J,Fi]at G;cases G
theorem Rm {l:List UInt8} {i k:Nat} {s:List UInt8} (ab:l.length≤4096) (J:i<l.length) (W:A4 (l.drop i)=0) (h:CX (l.drop i)=.tok k s):R8 l.length ⟨k,s,i⟩:=by
 have L:=Jw J;have M:=JI L W h;have N:s.length≤4096:=(by have:=M.2;rw[Dq]at this;omega);have ac:=h;unfold CX at h;rcases LK (l.drop i)with hs|⟨hs,ad⟩
 ·rw[U (fun e=>e hs)]at h;cases z:De (l.drop i)with
  |more=>rw[z]at h;cases h
  |deep a=>rw[z]at h;cases h
  |ok n=>
   rw[z]at h;injection h with hk h;have ae:1≤n:=by
    have G:=M.1;rw[←h,List.length_take]at G;omega
   obtain⟨c,r,I⟩: ∃c r,l.drop i=c::r:=by
    cases X:l.drop i with
    |nil=>exact Ai X L
    |cons c r=>exact⟨c,r,rfl⟩
   obtain⟨n,rfl⟩: ∃m,n=m+1:=⟨n-1,by omega⟩;have O:s=c::r.take n:=(by rw[←h,I];rfl);have K:C3 DA c=false:=by
    cases K:C3 DA c with
    |false=>rfl
    |true=>
     exfalso;rw[I,Et,Ah K]at z;injection z with z;omega
   refine⟨N,fun e=>?_,fun _=>⟨c,_,O,K⟩,fun e=>?_,?_,Nat.le_of_lt J⟩
   ·simp only[]at e;rw[e]at hk;split at hk
    ·rename_i F;unfold Nq at F;have F:=of_decide_eq_true F;refine⟨c,?_,?_,?_⟩
     ·show s=[c];rw[O];have:n=0:=(by omega);subst this;rfl
     ·have:=F.2.1;rw[I]at this;exact this
     ·have:=F.2.2.1;rw[I]at this;exact this
    ·cases hk
   ·simp only[]at e;rw[e]at hk;split at hk<;>cases hk
   ·simp only[];split at hk
    ·exact .inr (.inr hk.symm)
    ·exact .inl hk.symm
 ·have G:=(IQ _ hs).1;have aa:DT (l.drop i)≠[]:=(by intro e;rw[e]at G;exact Ai G (by decide));rw[Ah aa]at h;injection h with hk h;refine⟨N,fun e=>?_,fun e=>?_,fun _=>?_,.inr (.inl hk.symm),Nat.le_of_lt J⟩
  ·simp only[]at e;omega
  ·simp only[]at e;omega
  ·show s∈Dr;rw[←h];exact hs
theorem Z1d {P:Prop} (h:P:=by
 refine⟨fun F h=>(by cases h),fun a e h=>?_⟩;injection h with J K;subst J K;exact⟨by decide,by omega,by omega⟩):P:=h
theorem Z1f {P:Prop} (h:P:=by
 refine⟨fun F h=>?_,fun a e h=>(by cases h)⟩;injection h with h;subst h;exact⟨I,O⟩):P:=h
theorem Wj {l:List UInt8} (aa:l.length≤4096): ∀(f i:Nat) (G:List AX),i≤l.length→A4 (l.drop i)=0→G.length≤400→(∀t∈G,R8 l.length t)→
  (∀F,Dk l f i G=.ok F→(∀t∈F,R8 l.length t)∧F.length≤400)∧(∀a e,Dk l f i G=.err a e→e≠0∧0≤a∧a≤l.length):=by
 intro f;induction f with
 |zero=>
  intro i G ab N O I;exact Z1f
 |succ f ih=>
  intro i G ab N O I;rw[Dk];by_cases L:i<l.length
  ·rw[Ah L];by_cases W:G.length=400
   ·rw[Ah W];exact Z1d
   ·rw[U W];cases z:CX (l.drop i)with
    |more=>
     exact Z1d
    |deep d=>
     refine⟨fun F h=>(by cases h),fun a e h=>?_⟩;injection h with J K;subst J K;have ac:d≤(l.drop i).length:=by
      unfold CX at z;split at z
      ·cases z
      ·split at z
       ·cases z
       ·cases z
       ·rename_i a I;injection z with z;subst z;exact TA _ _ _ rfl I
     rw[Dq]at ac;exact⟨by decide,by omega,by omega⟩
    |tok k s=>
     have ad:=JI (Jw L) N z;rw[Dq]at ad;have ae:=GR _ (l.drop (i+s.length)) rfl;have X:=Dl _ (l.drop (i+s.length)) rfl;rw[List.drop_drop]at X;rw[Dq]at ae;refine ih _ _ (by omega) X (by rw[BE,Cd];omega) fun t M=>?_
     rw[List.mem_append,List.mem_singleton]at M;rcases M with M|rfl
     ·exact I t M
     ·exact Rm aa L N z
  ·rw[U L];exact Z1f
theorem US {l:List UInt8} {ts:List AX} (h:Fp l=.ok ts):l.length≤4096∧ ∃z,ts=z++[⟨4,[],l.length⟩]∧(∀t∈z,R8 l.length t)∧z.length≤400:=by
 unfold Fp at h;split at h
 ·cases h
 ·rename_i M;have G:l.length≤4096:=(by omega);have I:=GR _ l rfl;have J:=Dl _ l rfl;have K:=Wj G (l.length+1) (A4 l) [] I J (by simp) (fun t L=>by cases L);cases F:Dk l (l.length+1) (A4 l) []with
  |err a e=>rw[F]at h;cases h
  |ok z=>
   rw[F]at h;injection h with h;exact⟨G,z,h.symm,K.1 z F⟩
theorem UP {l:List UInt8} {a e:Int} (h:Fp l=.err a e):e≠0∧0≤a∧a≤l.length:=by
 unfold Fp at h;split at h
 ·injection h with z F;subst z F;exact⟨by decide,by omega,by omega⟩
 ·rename_i N;have I:l.length≤4096:=(by omega);have J:=GR _ l rfl;have K:=Dl _ l rfl;have L:=Wj I (l.length+1) (A4 l) [] J K (by simp) (fun t M=>by cases M);cases G:Dk l (l.length+1) (A4 l) []with
  |ok O=>rw[G]at h;cases h
  |err W e'=>
   rw[G]at h;injection h with z F;subst z F;exact L.2 _ _ G
structure Vg (L:Nat) (ts:List AX):Prop where
 Aj:Good ts
 len:ts.length≤401
 w: ∀t∈ts,t.k=4∧t.t=[]∧t.a≤L∨R8 L t
theorem Gs {l:List UInt8} {ts:List AX} (F:Fp l=.ok ts):l.length≤4096∧Vg l.length ts:=by
 obtain⟨G,I,rfl,z,J⟩:=US F;refine⟨G,⟨I,_,rfl,rfl,fun t h e=>?_⟩,by rw[BE,Cd];omega,fun t h=>?_⟩
 ·have:=(z t h).kk;omega
 ·rw[List.mem_append,List.mem_singleton]at h;rcases h with h|rfl
  ·exact .inr (z t h)
  ·exact .inl ⟨rfl,rfl,BL _⟩
end Go.Proofs.YtdhfhphbkfgamaaGreat
