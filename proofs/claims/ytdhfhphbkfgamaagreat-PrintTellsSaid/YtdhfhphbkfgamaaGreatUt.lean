/- PrintTells: a part of its proof. -/
import Derived.Test.YtdhfhphbkfgamaaGreatUs
set_option maxRecDepth 100000
set_option maxHeartbeats 64000000
namespace Go.Proofs.YtdhfhphbkfgamaaGreat
section
open Go.RowKit Lx
def KR (s:List UInt8):Ps:=match UA s with
 | .err a e=>⟨[],a,e⟩
 | .ok ts=>Io ts
theorem LN (s:List UInt8) (h: ¬4096<s.length):B9 s=KR s:=by
 unfold B9 KR;rw[So s h];cases UA s<;>rfl
def OF (l:List V):List UInt8:=
 if D7 l=true then
  let s:=BN [] (Ax l l.length (l.length-1))
  if 4096<s.length then []else if(KR s).e=0∧(KR s).ns=l then s else []
 else []
theorem PG (l:List V):Eu l=OF l:=by
 unfold Eu OF;split
 ·simp only[];by_cases h:4096<(BN [] (Ax l l.length (l.length-1))).length
  ·rw[Ah h,Ah h]
  ·rw[U h,U h,LN _ h]
 ·rfl
def XX (s:List UInt8):List UInt8:=OF (KR s).ns
theorem of_eq (s:List UInt8) (h: ¬4096<s.length):Eu (B9 s).ns=XX s:=by rw[PG,LN s h];rfl
def s1:List UInt8:=[105,102,32,97,10,116,104,101,110,32,98,10,101,108,105,102,32,99,59,116,104,101,110,32,100,10,102,105,62,102]
def u1:List UInt8:=[105,102,32,97,59,32,116,104,101,110,32,98,59,32,101,108,105,102,32,99,59,32,116,104,101,110,32,100,59,32,102,105,32,62,102]
theorem Xx:XX s1=u1:=by kernel_rfl
def s2:List UInt8:=[97,38,98]
def u2:List UInt8:=[97,32,38,32,98]
theorem X1:XX s2=u2:=by kernel_rfl
def s3:List UInt8:=[123,32,97,38,10,125]
def u3:List UInt8:=[123,32,97,32,38,32,125]
theorem X6:XX s3=u3:=by kernel_rfl
theorem No (s:List UInt8) (w:World) (M:s.length≤9223372036854775807):Calls Tryz.prog 8 #[sv s] w fun e w'=>e=.returned (sv (Eu (B9 s).ns))∧w.grownBy w' none:=by
 have h:=Z (fun N=>Lf s N M);have F:=Z (PT s);obtain⟨P,G⟩: ∃P,B9 s=P:=⟨_,rfl⟩;rw[G]at h F⊢;clear G;unfold Er sv at h;unfold sv;go_enter Tryz.func8,Tryz.ntmps8;go_wp2_with fail;refine(h.out _).mono ?_;rintro e I ⟨v,rfl,z,_,J⟩;have O:=Z J;have K:=Z (LO P.ns v I z.OR F.out);unfold sv at K;obtain⟨X,aa,rfl,_⟩:=(z.OR (n0:=I.heap.size)).form;clear z J;go_wp2_with fail;refine K.out.mono ?_;rintro e ab ⟨rfl,L⟩;have W:=Z (AI O.out L);clear L;go_wp2_with fail;go_ret;exact⟨rfl,W.out⟩
theorem Pv (w:World):Calls Tryz.prog 4 #[] w fun e w'=>e=.returned (.bool true)∧w.grownBy w' none:=by
 have z:=Z (fun h=>(by have:=No s1 h (by decide);rw[of_eq s1 (by decide),Xx]at this;exact this));have F:=Z (fun h=>(by have:=No s2 h (by decide);rw[of_eq s2 (by decide),X1]at this;exact this));have G:=Z (fun h=>(by have:=No s3 h (by decide);rw[of_eq s3 (by decide),X6]at this;exact this));unfold sv s1 u1 at z;unfold sv s2 u2 at F;unfold sv s3 u3 at G;go_enter Tryz.func4,Tryz.ntmps4;go_wp2_with fail;refine(z.out _).mono ?_;rintro e O ⟨rfl,I⟩;have L:=Z I;clear I;go_wp2_with fail;refine(F.out _).mono ?_;rintro e W ⟨rfl,J⟩;have M:=Z (AI L.out J);clear J;go_wp2_with fail;refine(G.out _).mono ?_;rintro e X ⟨rfl,K⟩;have N:=Z (AI M.out K);clear K;go_wp2_with fail;go_ret;exact⟨rfl,N.out⟩
end
section
open Go.RowKit Lx
theorem VE {l:List V} (h: ∀n∈l,Qf n):Wn l:=fun n z=>⟨(h n z).kids,(h n z).AS,(h n z).Wf⟩
theorem PN (l:List V) (v:Value) (w:World) (F:DZ w.heap.size w v l):Calls Tryz.prog 3 #[v] w fun e w'=>e=.returned (.bool true)∧w.grownBy w' none:=by
 obtain⟨ak,al,rfl,am⟩:=F.form;have ad:=Z (fun h=>Pv h);have G:=Z F;clear F;go_enter Tryz.func3,Tryz.ntmps3;go_wp2_with fail;refine(ad.out _).mono ?_;rintro e L ⟨rfl,I⟩;have ae:=Z I;have af:=Z (QO L.heap.size l _ L (G.out.old I (BL _)));clear I;go_wp2_with fail;refine af.out.mono ?_;rintro e ag ⟨⟨b,rfl,M⟩,N⟩;have J:=Z (AI ae.out N);have ah:=Z M;clear N M;cases b with
 |true=>
  go_wp2_with fail;go_ret;exact⟨rfl,J.out⟩
 |false=>
  have O:=Z (ah.out rfl);have K:=Z (LO l _ ag (G.out.old J.out (BL _)) (VE O.out));have W:=Z (Q9 (l:=l) fun X=>⟨(Ip X).1,(Ip X).2.1⟩);have z:=Z (fun h (ai:w.grownBy h none)=>MF h.heap.size l _ h (G.out.old ai (BL _)) O.out);unfold UN at z;rw[W.out]at z;obtain⟨s,hs⟩: ∃s,Eu l=s:=⟨_,rfl⟩;rw[hs]at K z;unfold sv at K z;clear hs W;go_wp2_with fail;refine K.out.mono ?_;rintro e an ⟨rfl,aa⟩;have ab:=Z (AI J.out aa);clear aa;go_wp2_with fail;refine(z.out _ ab.out).mono ?_;rintro e ao ⟨rfl,ac⟩;have aj:=Z (AI ab.out ac);clear ac;go_wp2_with fail;go_ret;exact⟨rfl,aj.out⟩
end
end Go.Proofs.YtdhfhphbkfgamaaGreat
