/- Scripts with many brackets, reckoned by the kernel. -/
import Derived.Test.YtgpfjcogaheopaaPX
namespace Go.Proofs.Ytgpfjcogaheopaa
open Lx
set_option maxRecDepth 100000

def deepS (subs : Bool) : Nat → List UInt8
  | 0 => [97]
  | n + 1 => if subs = true then [40, 32] ++ deepS subs n ++ [32, 41] else [123, 32] ++ deepS subs n ++ [59, 32, 125]
def okD (m : Nat) (b : Bool) : Bool := let p := parseN (deepS b m); if m ≤ 25 then p.e == 0 && p.ns.length == m + 1 else p.e == 17 && p.a == 50 && p.ns.length == 0
def allB (f : Nat → Bool) : Nat → Bool
  | 0 => true
  | n + 1 => f n && allB f n
theorem allB_at {f : Nat → Bool} : ∀ {n : Nat}, allB f n = true → ∀ m, m < n → f m = true
  | 0, _, m, h => by omega
  | n + 1, h, m, hm => by
    rw [allB, Bool.and_eq_true] at h
    by_cases e : m = n
    · subst e; exact h.1
    · exact allB_at h.2 m (by omega)
theorem dF : allB (fun m => okD m false) 26 = true := by kernel_rfl
theorem dT : allB (fun m => okD m true) 26 = true := by kernel_rfl
theorem d26f : okD 26 false = true := by kernel_rfl
theorem d27f : okD 27 false = true := by kernel_rfl
theorem d28f : okD 28 false = true := by kernel_rfl
theorem d29f : okD 29 false = true := by kernel_rfl
theorem d30f : okD 30 false = true := by kernel_rfl
theorem d31f : okD 31 false = true := by kernel_rfl
theorem d32f : okD 32 false = true := by kernel_rfl
theorem d33f : okD 33 false = true := by kernel_rfl
theorem d34f : okD 34 false = true := by kernel_rfl
theorem d35f : okD 35 false = true := by kernel_rfl
theorem d36f : okD 36 false = true := by kernel_rfl
theorem d37f : okD 37 false = true := by kernel_rfl
theorem d38f : okD 38 false = true := by kernel_rfl
theorem d39f : okD 39 false = true := by kernel_rfl
theorem d40f : okD 40 false = true := by kernel_rfl
theorem d41f : okD 41 false = true := by kernel_rfl
theorem d42f : okD 42 false = true := by kernel_rfl
theorem d43f : okD 43 false = true := by kernel_rfl
theorem d44f : okD 44 false = true := by kernel_rfl
theorem d45f : okD 45 false = true := by kernel_rfl
theorem d46f : okD 46 false = true := by kernel_rfl
theorem d47f : okD 47 false = true := by kernel_rfl
theorem d48f : okD 48 false = true := by kernel_rfl
theorem d49f : okD 49 false = true := by kernel_rfl
theorem d50f : okD 50 false = true := by kernel_rfl
theorem d51f : okD 51 false = true := by kernel_rfl
theorem d52f : okD 52 false = true := by kernel_rfl
theorem d53f : okD 53 false = true := by kernel_rfl
theorem d54f : okD 54 false = true := by kernel_rfl
theorem d55f : okD 55 false = true := by kernel_rfl
theorem d56f : okD 56 false = true := by kernel_rfl
theorem d57f : okD 57 false = true := by kernel_rfl
theorem d58f : okD 58 false = true := by kernel_rfl
theorem d59f : okD 59 false = true := by kernel_rfl
theorem d60f : okD 60 false = true := by kernel_rfl
theorem d61f : okD 61 false = true := by kernel_rfl
theorem d62f : okD 62 false = true := by kernel_rfl
theorem d63f : okD 63 false = true := by kernel_rfl

end Go.Proofs.Ytgpfjcogaheopaa
