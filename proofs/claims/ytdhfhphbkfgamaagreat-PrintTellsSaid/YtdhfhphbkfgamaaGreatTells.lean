/- PrintTells: whatever the nodes, the law answers true. No condition. -/
import Derived.OpenShut
import Derived.Test.YtdhfhphbkfgamaaGreatUt
set_option maxRecDepth 100000
set_option linter.all false
namespace Go.Proofs.YtdhfhphbkfgamaaGreat
open Go.ChangeShapes Go.WideShapes Go.ChangeAt Go.RowKit Lx
theorem Om{H:Type}{enc:TypeId×Value->H}(h:World)(base:Nat)(args:Array Value)(z:List (DataW H))(p:List MemPlace)
  (F:∀(j:Nat) t v,Tryz.f3.params[j]? =some t->args[j]? =some v->Value.okWide Tryz.prog h .any base t v)
  (G:DataW.TrodAll enc Tryz.prog h 0 (fun _=>true) true Tryz.f3.params.toList args.toList z p) (L:∀x∈p,x.block<h.heap.size)
  (aa:(DataW.weightsEach Tryz.prog Tryz.f3.params.toList z).all (· <=reachBytes)=true):
  Calls Tryz.prog 3 args h fun e M=>e=.returned (.bool true)/\Below h.heap.size h M:=by
 rw[Tryz.params3]at G F;obtain⟨args⟩:=args;obtain⟨I,ab,d0,ac,ad,ae,J,rfl,rfl,N,O⟩:=trodAll_cons G;obtain⟨rfl,rfl,rfl⟩:=trodAll_nil O;simp at J;subst J;obtain⟨W,X⟩:=Ue N (fun x hx=>L x (by simp[hx])) (okWide_slice Tryz.underlying22 (F 0 22 I rfl rfl));exact(Qj W I h X).mono fun _ _ K=>⟨K.1,Ld K.2⟩
set_option maxRecDepth 100000 in
theorem Mc(z:Os)(I:z.Started)(H:Type)(enc:TypeId×Value->H):
  ReturnsInHanded {} Tryz.checked z 3 .any (Rows.printTellsSpec.pre6 enc Tryz.prog Tryz.f3 Rows.printTellsRow.domain false) (Rows.printTellsSpec.post enc Tryz.prog Tryz.f3 false true false false):=
 Od I (spec:=Rows.printTellsSpec) Tryz.func3 (by kernel_rfl) rfl Tryz.underlying4 rfl
  (fun h F=>by rw[Tryz.params3]at F;match h,F with|[d0],_=>rfl)
  (by rw[Tryz.params3];intro t G;simp at G;subst G<;>exact⟨by kernel_rfl,of_decide_eq_true (by kernel_rfl)⟩)
  (ChangeSpec.witness6 (enc:=enc) (C:=Tryz.checked) false ⟨#[],#[.slice none 0 0],[]⟩ 8 (by kernel_rfl) (by kernel_rfl) (by kernel_rfl) (by kernel_rfl))
  (fun J base args h p K L M N=>Om J base args h p K L M N)
theorem tells_holds:Rows.PrintTellsSaid:=
 OpenClaim.holds_of_wide 3 Tryz.f3 rfl rfl rfl rfl rfl rfl rfl ⟨rfl,rfl,rfl,rfl,rfl⟩ rfl rfl rfl rfl rfl (by kernel_rfl) Tryz.func3 (by kernel_rfl)
  (of_decide_eq_true (by kernel_rfl)) (by unfold Func.isWrapper;first|(rw[Ai (by decide+kernel)];kernel_rfl)|(rw[AP (by decide+kernel)];exact⟨rfl,rfl⟩))
  (fun h z H enc _=>Mc h z H enc)
end Go.Proofs.YtdhfhphbkfgamaaGreat
