/- A part. -/
import Derived.Test.YtdhfhphbkfgamaaGreatUs
set_option maxRecDepth 100000
set_option linter.all false
set_option maxHeartbeats 0
namespace Go.Proofs.YtdhfhphbkfgamaaGreat
open Go.RowKit Lx Proofs.Tryz
def LJ(s:List UInt8):Ps:=match TQ s with
 | .err a e=>⟨[],a,e⟩
 | .ok ts=>JK ts
theorem ML(s:List UInt8)(h:¬4096<s.length):CD s=LJ s:=by
 unfold CD LJ;rw[UB s h];cases TQ s<;>rfl
def O3(l:List V):List UInt8:=
 if EI l=true then
  let s:=BQ [] (Ay l l.length (l.length-1))
  if 4096<s.length then []else if(LJ s).e=0/\(LJ s).ns=l then s else []
 else []
theorem QP(l:List V):E6 l=O3 l:=by
 unfold E6 O3;split
 ·simp only[];by_cases h:4096<(BQ [] (Ay l l.length (l.length-1))).length
  ·rw[Ai h,Ai h]
  ·rw[AP h,AP h,ML _ h]
 ·rfl
def X1(s:List UInt8):List UInt8:=O3 (LJ s).ns
theorem of_eq(s:List UInt8)(h:¬4096<s.length):E6 (CD s).ns=X1 s:=by rw[QP,ML s h];rfl
def s1:List UInt8:=[105,102,32,97,10,116,104,101,110,32,98,10,101,108,105,102,32,99,59,116,104,101,110,32,100,10,102,105,62,102]
def u1:List UInt8:=[105,102,32,97,59,32,116,104,101,110,32,98,59,32,101,108,105,102,32,99,59,32,116,104,101,110,32,100,59,32,102,105,32,62,102]
theorem YV:X1 s1=u1:=by kernel_rfl
def s2:List UInt8:=[97,38,98]
def u2:List UInt8:=[97,32,38,32,98]
theorem Yd:X1 s2=u2:=by kernel_rfl
def s3:List UInt8:=[123,32,97,38,10,125]
def u3:List UInt8:=[123,32,97,32,38,32,125]
theorem Ye:X1 s3=u3:=by kernel_rfl
theorem Oa(s:List UInt8)(w:World)(M:s.length<=9223372036854775807):Calls prog 8 #[sv s] w fun e w'=>e=.returned (sv (E6 (CD s).ns))/\w.grownBy w' none:=by
 have h:=Z (fun N=>MP s N M);have F:=Z (QI s);obtain⟨P,G⟩:=U (CD s);rw[G]at h F⊢;clear G;unfold FH sv at h;unfold sv;go_enter func8,ntmps8;go_wp2_with fail;refine(h.out _).mono ?_;rintro e I ⟨v,rfl,z,_,J⟩;have O:=Z J;have K:=Z (MA P.ns v I z.OL F.out);unfold sv at K;obtain⟨X,aa,rfl,_⟩:=(z.OL (n0:=I.heap.size)).form;clear z J;go_wp2_with fail;refine K.out.mono ?_;rintro e ab ⟨rfl,L⟩;have W:=Z (AI O.out L);clear L;go_wp2_with fail;go_ret;exact⟨rfl,W.out⟩
theorem Q9(w:World):Calls prog 4 #[] w fun e w'=>e=.returned (.bool true)/\w.grownBy w' none:=by
 have z:=Z (fun h=>(by have:=Oa s1 h (by decide);rw[of_eq s1 (by decide),YV]at this;exact this));have F:=Z (fun h=>(by have:=Oa s2 h (by decide);rw[of_eq s2 (by decide),Yd]at this;exact this));have G:=Z (fun h=>(by have:=Oa s3 h (by decide);rw[of_eq s3 (by decide),Ye]at this;exact this));unfold sv s1 u1 at z;unfold sv s2 u2 at F;unfold sv s3 u3 at G;go_enter func4,ntmps4;go_wp2_with fail;refine(z.out _).mono ?_;rintro e O ⟨rfl,I⟩;have L:=Z I;clear I;go_wp2_with fail;refine(F.out _).mono ?_;rintro e W ⟨rfl,J⟩;have M:=Z (AI L.out J);clear J;go_wp2_with fail;refine(G.out _).mono ?_;rintro e X ⟨rfl,K⟩;have N:=Z (AI M.out K);clear K;go_wp2_with fail;go_ret;exact⟨rfl,N.out⟩
theorem WM{l:List V}(h:∀n∈l,RE n):Xj l:=fun n z=>⟨(h n z).kids,(h n z).AT,(h n z).XG⟩
theorem Qj(l:List V)(v:Value)(w:World)(F:Dj w.heap.size w v l):Calls prog 3 #[v] w fun e w'=>e=.returned (.bool true)/\w.grownBy w' none:=by
 obtain⟨ak,al,rfl,am⟩:=F.form;have ad:=Z (fun h=>Q9 h);have G:=Z F;clear F;go_enter func3,ntmps3;go_wp2_with fail;refine(ad.out _).mono ?_;rintro e L ⟨rfl,I⟩;have ae:=Z I;have af:=Z (Pr L.heap.size l _ L (G.out.old I (BN _)));clear I;go_wp2_with fail;refine af.out.mono ?_;rintro e ag ⟨⟨b,rfl,M⟩,N⟩;have J:=Z (AI ae.out N);have ah:=Z M;clear N M;cases b with
 |true=>
  go_wp2_with fail;go_ret;exact⟨rfl,J.out⟩
 |false=>
  have O:=Z (ah.out rfl);have K:=Z (MA l _ ag (G.out.old J.out (BN _)) (WM O.out));have W:=Z (TC (l:=l) fun X=>⟨(JC X).1,(JC X).2.1⟩);have z:=Z (fun h (ai:w.grownBy h none)=>Me h.heap.size l _ h (G.out.old ai (BN _)) O.out);unfold Us at z;rw[W.out]at z;obtain⟨s,hs⟩:=U (E6 l);rw[hs]at K z;unfold sv at K z;clear hs W;go_wp2_with fail;refine K.out.mono ?_;rintro e an ⟨rfl,aa⟩;have ab:=Z (AI J.out aa);clear aa;go_wp2_with fail;refine(z.out _ ab.out).mono ?_;rintro e ao ⟨rfl,ac⟩;have aj:=Z (AI ab.out ac);clear ac;go_wp2_with fail;go_ret;exact⟨rfl,aj.out⟩
end Go.Proofs.YtdhfhphbkfgamaaGreat
