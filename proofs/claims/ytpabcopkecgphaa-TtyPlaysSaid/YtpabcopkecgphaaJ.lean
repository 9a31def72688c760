/- The law's helper shows, and small facts on strings. -/
import Derived.Test.YtpabcopkecgphaaI
import Derived.Test.YtpabcopkecgphaaArgs
namespace Go.Proofs.Ytpabcopkecgphaa
open Go.RowKit

theorem none_cell {w w' : World} (h : w.grownBy w' none) {b off : Nat} {v : Value} (hb : b < w.heap.size) (hc : w.cell? ⟨b, off, none⟩ = some v) : w'.cell? ⟨b, off, none⟩ = some v :=
  ((below_of_none h).cell (p := ⟨b, off, none⟩) hb).trans hc

theorem ext_one (s : ByteArray) (k : Nat) (hlt : k < s.size) : s.extract k (k + 1) = ⟨#[s[k]]⟩ := by
  apply ByteArray.ext
  rw [ByteArray.data_extract]
  apply Array.ext'
  rw [Array.toList_extract, List.extract_eq_take_drop, List.drop_eq_getElem_cons (by simpa using hlt)]
  simp
  rfl

theorem run_str1 (w : World) (c : UInt8) : (convert 27 9 (.slice (some ⟨w.heap.size, 0, none⟩) 1 1)).run Try.prog (w.alloc (.cells #[.int .u8 c.toNat] 5)) = .ok (.string ⟨#[c]⟩) (w.alloc (.cells #[.int .u8 c.toNat] 5)) :=
  run_string_of_bytes (w.alloc (.cells #[.int .u8 c.toNat] 5)) (e := 5) (by kernel_rfl) (by kernel_rfl) (by kernel_rfl) ⟨w.heap.size, 0, none⟩ [c] 1 (fun i hi => by
    have : i = 0 := by simpa using hi
    subst this
    exact World.cell?_alloc_new w _ _ 0)

theorem shownS_nil : ShownS ⟨#[]⟩ := fun c h => absurd h (by simp)
theorem shownS_snoc {S : ByteArray} (h : ShownS S) {c : UInt8} (hc : shown c = true) : ShownS (S ++ ⟨#[c]⟩) := by
  intro x hx
  rw [ByteArray.data_append, Array.toList_append, List.mem_append] at hx
  rcases hx with hx | hx
  · exact h x hx
  · simp at hx
    rw [hx]
    exact hc
theorem snoc_size (S : ByteArray) (c : UInt8) : (S ++ ⟨#[c]⟩).size = S.size + 1 := by rw [ByteArray.size_append]; rfl

def Shows14 (w : World) (e : Ending) (w' : World) : Prop := ∃ S : ByteArray, e = .returned (.string S) ∧ S.size ≤ 200 ∧ ShownS S ∧ ∃ n, w' = w.drewN n

/-- What the test of a byte says, in the walk's words. -/
theorem shown_ways (c : UInt8) :
    (shown c = true ∧ (32 : Int) ≤ (c.toNat : Int) ∧ (c.toNat : Int) ≤ 126) ∨ (shown c = true ∧ ¬ (32 : Int) ≤ (c.toNat : Int) ∧ ((c.toNat : Int) == 9) = true) ∨
    (shown c = false ∧ (32 : Int) ≤ (c.toNat : Int) ∧ ¬ (c.toNat : Int) ≤ 126 ∧ ((c.toNat : Int) == 9) = false) ∨ (shown c = false ∧ ¬ (32 : Int) ≤ (c.toNat : Int) ∧ ((c.toNat : Int) == 9) = false) := by
  unfold shown
  by_cases h9 : c.toNat = 9
  · right; left
    rw [h9]
    decide
  · have h9' : ((c.toNat : Int) == 9) = false := neI (by omega)
    have h9b : (c.toNat == 9) = false := by simpa using h9
    by_cases h1 : 32 ≤ c.toNat
    · by_cases h2 : c.toNat ≤ 126
      · left; exact ⟨by simp [h1, h2], by omega, by omega⟩
      · right; right; left; exact ⟨by simp [h9b, h2], by omega, by omega, h9'⟩
    · right; right; right; exact ⟨by simp [h9b, h1], by omega, h9'⟩

set_option maxRecDepth 100000 in
set_option maxHeartbeats 1000000 in
theorem shows14 (s : ByteArray) (hs : s.size ≤ maxLen) (w : World) : Calls Try.prog 14 #[.string s] w (Shows14 w) := by
  unfold maxLen at hs
  go_enter Try.func14, Try.ntmps14
  go_wp2_with fail
  go_loopw [3, 4] (fun vt v wr => ∃ (j : Nat) (T : ByteArray), v = .int .i64 j ∧ vt = .string T ∧ j ≤ s.size ∧ T.size ≤ 200 ∧ ShownS T ∧ ∃ n, wr = w.drewN n) (fun _ v _ => s.size - (intOf v).toNat)
  case atStart => exact ⟨0, _, rfl, rfl, by omega, by decide, shownS_nil, 0, rfl⟩
  case round =>
    obtain ⟨j, T, rfl, rfl, hj, hT, hSh, n, rfl⟩ := hrel
    have HSh := hide hSh
    clear hSh
    by_cases h1 : j < s.size
    · by_cases h2 : T.size < 200
      · have Hx := hide (ext_one s j h1)
        rcases shown_ways s[j] with ⟨h0, q1, q2⟩ | ⟨h0, q1, q2⟩ | ⟨h0, q1, q2, q3⟩ | ⟨h0, q1, q3⟩
        · have H0 := hide h0
          clear h0
          go_wp2
          all_goals
            (go_roundw
             case rel => exact ⟨j + 1, _, by go_num, rfl, by omega, by rw [Hx.out, snoc_size]; omega, by rw [Hx.out]; exact shownS_snoc HSh.out H0.out, _, rfl⟩
             case measure => simp [intOf]; omega)
        · have H0 := hide h0
          clear h0
          go_wp2
          all_goals
            (go_roundw
             case rel => exact ⟨j + 1, _, by go_num, rfl, by omega, by rw [Hx.out, snoc_size]; omega, by rw [Hx.out]; exact shownS_snoc HSh.out H0.out, _, rfl⟩
             case measure => simp [intOf]; omega)
        all_goals
          clear h0
          go_wp2
          go_roundw
          case rel => exact ⟨j + 1, _, by go_num, rfl, by omega, by omega, HSh.out, _, rfl⟩
          case measure => simp [intOf]; omega
      · go_wp2
        go_ret
        exact ⟨_, rfl, hT, HSh.out, _, rfl⟩
    · go_wp2
      go_ret
      exact ⟨_, rfl, hT, HSh.out, _, rfl⟩

end Go.Proofs.Ytpabcopkecgphaa
