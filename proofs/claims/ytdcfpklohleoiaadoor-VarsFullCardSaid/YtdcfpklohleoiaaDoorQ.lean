/- VarsFull answers true, whatever it is given. -/
import Derived.Test.YtdcfpklohleoiaaDoorP
namespace Go.Proofs.YtdcfpklohleoiaaDoor
open Go.RowKit
set_option maxRecDepth 100000

theorem full_long (val : List UInt8) (w : World) (which : Int) (hv : 1024 < val.length) :
    Calls Tryd.prog 4 #[.int .i64 which, sv val] w fun e w' => e = .returned (.bool true) ∧ w.grownBy w' none := by
  have Hsh := hide (fun w' => shown_any w')
  have h1 := sz val
  have q1 : decide ((1024 : Int) < (val.length : Int)) = true := decide_eq_true (by omega)
  unfold sv
  go_enter Tryd.func4, Tryd.ntmps4
  go_wp2_with fail
  refine (Hsh.out _).mono ?_
  rintro e w1 ⟨rfl, g1⟩
  have HG1 := hide g1
  clear g1
  go_wp2_with fail
  go_ret
  exact ⟨rfl, HG1.out⟩

theorem full_any (val : List UInt8) (w : World) (which : Int) (hwb : -9223372036854775808 ≤ which ∧ which ≤ 9223372036854775807) :
    Calls Tryd.prog 4 #[.int .i64 which, sv val] w fun e w' => e = .returned (.bool true) ∧ w.grownBy w' none := by
  by_cases hv : val.length ≤ 1024
  · exact full_loop val w which hwb hv
  · exact full_long val w which (by omega)

end Go.Proofs.YtdcfpklohleoiaaDoor
