/- Scripts with many brackets, reckoned by the kernel: the rest. -/
import Derived.Test.YtgpfjcogaheopaaRA
namespace Go.Proofs.Ytgpfjcogaheopaa
open Lx
set_option maxRecDepth 100000

theorem d26t : okD 26 true = true := by kernel_rfl
theorem d27t : okD 27 true = true := by kernel_rfl
theorem d28t : okD 28 true = true := by kernel_rfl
theorem d29t : okD 29 true = true := by kernel_rfl
theorem d30t : okD 30 true = true := by kernel_rfl
theorem d31t : okD 31 true = true := by kernel_rfl
theorem d32t : okD 32 true = true := by kernel_rfl
theorem d33t : okD 33 true = true := by kernel_rfl
theorem d34t : okD 34 true = true := by kernel_rfl
theorem d35t : okD 35 true = true := by kernel_rfl
theorem d36t : okD 36 true = true := by kernel_rfl
theorem d37t : okD 37 true = true := by kernel_rfl
theorem d38t : okD 38 true = true := by kernel_rfl
theorem d39t : okD 39 true = true := by kernel_rfl
theorem d40t : okD 40 true = true := by kernel_rfl
theorem d41t : okD 41 true = true := by kernel_rfl
theorem d42t : okD 42 true = true := by kernel_rfl
theorem d43t : okD 43 true = true := by kernel_rfl
theorem d44t : okD 44 true = true := by kernel_rfl
theorem d45t : okD 45 true = true := by kernel_rfl
theorem d46t : okD 46 true = true := by kernel_rfl
theorem d47t : okD 47 true = true := by kernel_rfl
theorem d48t : okD 48 true = true := by kernel_rfl
theorem d49t : okD 49 true = true := by kernel_rfl
theorem d50t : okD 50 true = true := by kernel_rfl
theorem d51t : okD 51 true = true := by kernel_rfl
theorem d52t : okD 52 true = true := by kernel_rfl
theorem d53t : okD 53 true = true := by kernel_rfl
theorem d54t : okD 54 true = true := by kernel_rfl
theorem d55t : okD 55 true = true := by kernel_rfl
theorem d56t : okD 56 true = true := by kernel_rfl
theorem d57t : okD 57 true = true := by kernel_rfl
theorem d58t : okD 58 true = true := by kernel_rfl
theorem d59t : okD 59 true = true := by kernel_rfl
theorem d60t : okD 60 true = true := by kernel_rfl
theorem d61t : okD 61 true = true := by kernel_rfl
theorem d62t : okD 62 true = true := by kernel_rfl
theorem d63t : okD 63 true = true := by kernel_rfl
theorem deep_all (m : Nat) (h : m ≤ 63) (b : Bool) : okD m b = true := by
  by_cases hs : m < 26
  · cases b with
    | false => exact allB_at dF m hs
    | true => exact allB_at dT m hs
  · have hm : m = 26 ∨ m = 27 ∨ m = 28 ∨ m = 29 ∨ m = 30 ∨ m = 31 ∨ m = 32 ∨ m = 33 ∨ m = 34 ∨ m = 35 ∨ m = 36 ∨ m = 37 ∨ m = 38 ∨ m = 39 ∨ m = 40 ∨ m = 41 ∨ m = 42 ∨ m = 43 ∨ m = 44 ∨ m = 45 ∨ m = 46 ∨ m = 47 ∨ m = 48 ∨ m = 49 ∨ m = 50 ∨ m = 51 ∨ m = 52 ∨ m = 53 ∨ m = 54 ∨ m = 55 ∨ m = 56 ∨ m = 57 ∨ m = 58 ∨ m = 59 ∨ m = 60 ∨ m = 61 ∨ m = 62 ∨ m = 63 := by omega
    cases b with
    | false =>
      rcases hm with rfl | rfl | rfl | rfl | rfl | rfl | rfl | rfl | rfl | rfl | rfl | rfl | rfl | rfl | rfl | rfl | rfl | rfl | rfl | rfl | rfl | rfl | rfl | rfl | rfl | rfl | rfl | rfl | rfl | rfl | rfl | rfl | rfl | rfl | rfl | rfl | rfl | rfl
      · exact d26f
      · exact d27f
      · exact d28f
      · exact d29f
      · exact d30f
      · exact d31f
      · exact d32f
      · exact d33f
      · exact d34f
      · exact d35f
      · exact d36f
      · exact d37f
      · exact d38f
      · exact d39f
      · exact d40f
      · exact d41f
      · exact d42f
      · exact d43f
      · exact d44f
      · exact d45f
      · exact d46f
      · exact d47f
      · exact d48f
      · exact d49f
      · exact d50f
      · exact d51f
      · exact d52f
      · exact d53f
      · exact d54f
      · exact d55f
      · exact d56f
      · exact d57f
      · exact d58f
      · exact d59f
      · exact d60f
      · exact d61f
      · exact d62f
      · exact d63f
    | true =>
      rcases hm with rfl | rfl | rfl | rfl | rfl | rfl | rfl | rfl | rfl | rfl | rfl | rfl | rfl | rfl | rfl | rfl | rfl | rfl | rfl | rfl | rfl | rfl | rfl | rfl | rfl | rfl | rfl | rfl | rfl | rfl | rfl | rfl | rfl | rfl | rfl | rfl | rfl | rfl
      · exact d26t
      · exact d27t
      · exact d28t
      · exact d29t
      · exact d30t
      · exact d31t
      · exact d32t
      · exact d33t
      · exact d34t
      · exact d35t
      · exact d36t
      · exact d37t
      · exact d38t
      · exact d39t
      · exact d40t
      · exact d41t
      · exact d42t
      · exact d43t
      · exact d44t
      · exact d45t
      · exact d46t
      · exact d47t
      · exact d48t
      · exact d49t
      · exact d50t
      · exact d51t
      · exact d52t
      · exact d53t
      · exact d54t
      · exact d55t
      · exact d56t
      · exact d57t
      · exact d58t
      · exact d59t
      · exact d60t
      · exact d61t
      · exact d62t
      · exact d63t

end Go.Proofs.Ytgpfjcogaheopaa
