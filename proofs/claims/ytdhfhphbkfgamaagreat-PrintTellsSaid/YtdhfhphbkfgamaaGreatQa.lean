/- A part. -/
import Derived.Test.YtdhfhphbkfgamaaGreatPa
set_option maxRecDepth 100000
set_option linter.all false
namespace Go.Proofs.YtdhfhphbkfgamaaGreat
open Lx Proofs.Tryz
structure SL(L:Nat)(t:AY):Prop where
 len:t.t.length<=4096
 io:t.k=3-> ∃c,t.t=[c]/\48<=c.toNat/\c.toNat<=57
 wd:t.k=1-> ∃c r,t.t=c::r/\DB DF c=false
 sg:t.k=2->t.t∈D9
 kk:t.k=1\/t.k=2\/t.k=3
 at_:t.a<=L
theorem CI{r:Rs}{k a:Nat}(h:r.add k=.deep a):∃m,r=.deep m/\a=k+m:=by
 cases r with
 |ok m=>cases h
 |more=>cases h
 |deep m=>injection h with h;exact⟨m,rfl,by omega⟩
theorem Jh(c:UInt8)(esc:Bool):∀(t:List UInt8) (a:Nat),BV c esc t≠.deep a
 |[],a,h=>by cases h
 |[b],a,h=>by
  unfold BV at h;split at h
  ·cases h
  ·split at h
   ·cases h
   ·cases h
 |b::d::r,a,h=>by
  unfold BV at h;split at h
  ·obtain⟨m,z,rfl⟩:=CI h;exact Jh c esc r m z
  ·split at h
   ·cases h
   ·obtain⟨m,z,rfl⟩:=CI h;exact Jh c esc (d::r) m z
theorem TR:∀(t:List UInt8) (o a:Nat),Bq o t≠.deep a:=by
 intro t;induction t with
 |nil=>intro o a h;cases o<;>cases h
 |cons b r ih=>
  intro o a h;have F:Bq o (b::r)=if b=40 then(Bq (o+1) r).add 1 else if b≠41 then(Bq o r).add 1 else if 0<o then(Bq (o-1) r).add 1 else if r.take 1=[41]then .ok 2 else(Bq o r).add 1:=(by cases o<;>rfl);rw[F]at h;split at h
  ·obtain⟨m,z,rfl⟩:=CI h;exact ih _ _ z
  ·split at h
   ·obtain⟨m,z,rfl⟩:=CI h;exact ih _ _ z
   ·split at h
    ·obtain⟨m,z,rfl⟩:=CI h;exact ih _ _ z
    ·split at h
     ·cases h
     ·obtain⟨m,z,rfl⟩:=CI h;exact ih _ _ z
theorem RB{I:List UInt8->Rs}(J:∀t n,I t=.deep n->n<=t.length)(e:UInt8)(K:List UInt8):∀(F:Nat) (t:List UInt8) (o n:Nat),t.length=F->BL I e K o t=.deep n->n<=t.length:=by
 intro F;induction F using Nat.strongRecOn with
 |ind F ih=>
  intro t o n G h;match t,G with
  |[],_=>rw[EZ]at h;cases h
  |c::r,G=>
   rw[BR]at G⊢;rw[FV]at h;split at h
   ·split at h
    ·cases h
    ·obtain⟨m,z,rfl⟩:=CI h;have:=ih r.length (by omega) r _ _ rfl z;omega
   ·split at h
    ·obtain⟨m,z,rfl⟩:=CI h;have:=ih r.length (by omega) r _ _ rfl z;omega
    ·split at h
     ·obtain⟨m,z,rfl⟩:=CI h;have:=ih r.length (by omega) r _ _ rfl z;omega
     ·split at h
      ·cases h
      ·rename_i a L;injection h with h;subst h;have:=J _ _ L;simpa using this
      ·rename_i q N;obtain⟨m,z,rfl⟩:=CI h;have O:(r.drop (q-1)).length=r.length-(q-1):=D8 ..;have:=ih (r.drop (q-1)).length (by omega) _ _ _ rfl z;by_cases W:q-1<=r.length
       ·omega
       ·exfalso;have M:r.drop (q-1)=[]:=IG (by omega);rw[M,EZ]at z;cases z
theorem Uk:∀(lv:Nat) (q:Bool) (t:List UInt8) (n:Nat),Ad lv q t=.deep n->n<=t.length:=by
 intro lv;induction lv with
 |zero=>
  intro q t n h;unfold Ad at h;split at h
  ·injection h with h;omega
  ·cases h
 |succ lv ih=>
  intro q t n h;unfold Ad at h;have G:=fun q e p=>RB (ih q) e p
  split at h
  ·split at h
   ·split at h<;>cases h
   ·split at h
    ·obtain⟨m,F,rfl⟩:=CI h;exact Aj F (Jh _ _ _ _)
    ·split at h
     ·obtain⟨m,F,rfl⟩:=CI h;exact Aj F (Jh _ _ _ _)
     ·split at h
      ·rename_i J;have I:=Lx.take_len J;obtain⟨m,F,rfl⟩:=CI h;have:=G _ _ _ _ _ _ _ rfl F;rw[D8]at this;simp at I;omega
      ·split at h
       ·obtain⟨m,F,rfl⟩:=CI h;exact Aj F (TR _ _ _)
       ·split at h
        ·rename_i J;have I:=Lx.take_len J;obtain⟨m,F,rfl⟩:=CI h;have:=G _ _ _ _ _ _ _ rfl F;rw[D8]at this;simp at I;omega
        ·rename_i z K L M N W O;have I:2<=t.length:=by
          unfold Dr at z;simp only[GX,Di,CN]at z;rcases z with(((z|z)|z)|z)|⟨_,z|z⟩
          ·exact(K z).elim
          ·exact(L z).elim
          ·exact(O z).elim
          ·have:=Lx.take_len z;simpa using this
          ·exact(M z).elim
          ·exact(N z).elim
         split at h
         ·obtain⟨m,F,rfl⟩:=CI h;have:=G _ _ _ _ _ _ _ rfl F;rw[D8]at this;omega
         ·obtain⟨m,F,rfl⟩:=CI h;have:=G _ _ _ _ _ _ _ rfl F;rw[D8]at this;omega
  ·cases h
theorem Tl:∀(z:Nat) (t:List UInt8) (n:Nat),t.length=z->Dn t=.deep n->n<=t.length:=by
 intro z;induction z using Nat.strongRecOn with
 |ind z ih=>
  intro t n F h;match t,F with
  |[],_=>rw[GG]at h;cases h
  |c::r,F=>
   rw[BR]at F⊢;rw[FK]at h;split at h
   ·cases h
   ·split at h
    ·cases h
    ·rename_i a I;injection h with h;subst h;have:=Uk _ _ _ _ I;simpa using this
    ·rename_i q K;obtain⟨m,G,rfl⟩:=CI h;have L:(r.drop (q-1)).length=r.length-(q-1):=D8 ..;have:=ih (r.drop (q-1)).length (by omega) _ _ rfl G;by_cases M:q-1<=r.length
     ·omega
     ·exfalso;have J:r.drop (q-1)=[]:=IG (by omega);rw[J,GG]at G;cases G
theorem Se{l:List UInt8}{i k:Nat}{s:List UInt8}(ab:l.length<=4096)(J:i<l.length)(W:A6 (l.drop i)=0)(h:Ce (l.drop i)=.tok k s):SL l.length ⟨k,s,i⟩:=by
 have L:=KW J;have M:=Jj L W h;have N:s.length<=4096:=(by have:=M.2;rw[D8]at this;omega);have ac:=h;unfold Ce at h;rcases MJ (l.drop i)with hs|⟨hs,ad⟩
 ·rw[AP (fun e=>e hs)]at h;cases z:Dn (l.drop i)with
  |more=>rw[z]at h;cases h
  |deep a=>rw[z]at h;cases h
  |ok n=>
   rw[z]at h;injection h with hk h;have ae:1<=n:=by
    have G:=M.1;rw[<-h,Fw]at G;omega
   obtain⟨c,r,I⟩:∃c r,l.drop i=c::r:=by
    cases X:l.drop i with
    |nil=>exact Aj X L
    |cons c r=>exact⟨c,r,rfl⟩
   obtain⟨n,rfl⟩:∃m,n=m+1:=⟨n-1,by omega⟩;have O:s=c::r.take n:=(by rw[<-h,I];rfl);have K:DB DF c=false:=by
    cases K:DB DF c with
    |false=>rfl
    |true=>
     exfalso;rw[I,FK,Ai K]at z;injection z with z;omega
   refine⟨N,fun e=>?_,fun _=>⟨c,_,O,K⟩,fun e=>?_,?_,Nat.le_of_lt J⟩
   ·simp only[]at e;rw[e]at hk;split at hk
    ·rename_i F;unfold PB at F;have F:=of_decide_eq_true F;refine⟨c,?_,?_,?_⟩
     ·show s=[c];rw[O];have:n=0:=(by omega);subst this;rfl
     ·have:=F.2.1;rw[I]at this;exact this
     ·have:=F.2.2.1;rw[I]at this;exact this
    ·cases hk
   ·simp only[]at e;rw[e]at hk;split at hk<;>cases hk
   ·simp only[];split at hk
    ·exact .inr (.inr hk.symm)
    ·exact .inl hk.symm
 ·have G:=(Ix _ hs).1;have aa:De (l.drop i)≠[]:=(by intro e;rw[e]at G;exact Aj G (by decide));rw[Ai aa]at h;injection h with hk h;refine⟨N,fun e=>?_,fun e=>?_,fun _=>?_,.inr (.inl hk.symm),Nat.le_of_lt J⟩
  ·simp only[]at e;omega
  ·simp only[]at e;omega
  ·show s∈D9;rw[<-h];exact hs
theorem Wz{l:List UInt8}(aa:l.length<=4096):∀(f i:Nat) (G:List AY),i<=l.length->A6 (l.drop i)=0->G.length<=400->(∀t∈G,SL l.length t)->
  (∀F,D3 l f i G=.ok F->(∀t∈F,SL l.length t)/\F.length<=400)/\(∀a e,D3 l f i G=.err a e->e≠0/\0<=a/\a<=l.length):=by
 intro f;induction f with
 |zero=>
  intro i G ab N O I;refine⟨fun F h=>?_,fun a e h=>(by cases h)⟩;injection h with h;subst h;exact⟨I,O⟩
 |succ f ih=>
  intro i G ab N O I;rw[D3];by_cases L:i<l.length
  ·rw[Ai L];by_cases W:G.length=400
   ·rw[Ai W];refine⟨fun F h=>(by cases h),fun a e h=>?_⟩;injection h with J K;subst J K;exact⟨by decide,by omega,by omega⟩
   ·rw[AP W];cases z:Ce (l.drop i)with
    |more=>
     refine⟨fun F h=>(by cases h),fun a e h=>?_⟩;injection h with J K;subst J K;exact⟨by decide,by omega,by omega⟩
    |deep d=>
     refine⟨fun F h=>(by cases h),fun a e h=>?_⟩;injection h with J K;subst J K;have ac:d<=(l.drop i).length:=by
      unfold Ce at z;split at z
      ·cases z
      ·split at z
       ·cases z
       ·cases z
       ·rename_i a I;injection z with z;subst z;exact Tl _ _ _ rfl I
     rw[D8]at ac;exact⟨by decide,by omega,by omega⟩
    |tok k s=>
     have ad:=Jj (KW L) N z;rw[D8]at ad;have ae:=Gt _ (l.drop (i+s.length)) rfl;have X:=D5 _ (l.drop (i+s.length)) rfl;rw[List.drop_drop]at X;rw[D8]at ae;refine ih _ _ (by omega) X (by rw[BG,Cj];omega) fun t M=>?_
     rw[ID,DA]at M;rcases M with M|rfl
     ·exact I t M
     ·exact Se aa L N z
  ·rw[AP L];refine⟨fun F h=>?_,fun a e h=>(by cases h)⟩;injection h with h;subst h;exact⟨I,O⟩
theorem VB{l:List UInt8}{ts:List AY}(h:GA l=.ok ts):l.length<=4096/\ ∃z,ts=z++[⟨4,[],l.length⟩]/\(∀t∈z,SL l.length t)/\z.length<=400:=by
 unfold GA at h;split at h
 ·cases h
 ·rename_i M;have G:l.length<=4096:=(by omega);have I:=Gt _ l rfl;have J:=D5 _ l rfl;have K:=Wz G (l.length+1) (A6 l) [] I J (by simp) (fun t L=>by cases L);cases F:D3 l (l.length+1) (A6 l) []with
  |err a e=>rw[F]at h;cases h
  |ok z=>
   rw[F]at h;injection h with h;exact⟨G,z,h.symm,K.1 z F⟩
theorem VQ{l:List UInt8}{a e:Int}(h:GA l=.err a e):e≠0/\0<=a/\a<=l.length:=by
 unfold GA at h;split at h
 ·injection h with z F;subst z F;exact⟨by decide,by omega,by omega⟩
 ·rename_i N;have I:l.length<=4096:=(by omega);have J:=Gt _ l rfl;have K:=D5 _ l rfl;have L:=Wz I (l.length+1) (A6 l) [] J K (by simp) (fun t M=>by cases M);cases G:D3 l (l.length+1) (A6 l) []with
  |ok O=>rw[G]at h;cases h
  |err W e'=>
   rw[G]at h;injection h with z F;subst z F;exact L.2 _ _ G
structure Vg(L:Nat)(ts:List AY):Prop where
 Ak:Good ts
 len:ts.length<=401
 w:∀t∈ts,t.k=4/\t.t=[]/\t.a<=L\/SL L t
theorem Ie{l:List UInt8}{ts:List AY}(F:GA l=.ok ts):l.length<=4096/\Vg l.length ts:=by
 obtain⟨G,I,rfl,z,J⟩:=VB F;refine⟨G,⟨I,_,rfl,rfl,fun t h e=>?_⟩,by rw[BG,Cj];omega,fun t h=>?_⟩
 ·have:=(z t h).kk;omega
 ·rw[ID,DA]at h;rcases h with h|rfl
  ·exact .inr (z t h)
  ·exact .inl ⟨rfl,rfl,BN _⟩
end Go.Proofs.YtdhfhphbkfgamaaGreat
