/- The walk of TtyKills: whatever the texts, it answers true. -/
import Derived.Test.YtpabcopkecgphaaJ
namespace Go.Proofs.Ytpabcopkecgphaa
open Go.RowKit

def kst (l m : ByteArray) : TS := ⟨[(m ++ ⟨#[10]⟩).data.toList], [], false, l.data.toList ++ (List.replicate l.size bsb).flatten ++ m.data.toList ++ [10]⟩

theorem type_killF {w0 w : World} {b : Nat} (h : Fresh w0 w b (em ⟨#[]⟩)) (l m x e : ByteArray) (hx : x = ⟨#[21]⟩) (he : e = ⟨#[10]⟩) (hs : ShownS l) (hm : ShownS m) (hl : l.size ≤ 200) (hl2 : m.size ≤ 200) :
    Calls Try.prog 11 #[.pointer (some ⟨b, 0, none⟩), .string (l ++ x ++ m ++ e)] w fun e' w' => e' = .returned (.tuple #[]) ∧ Fresh w0 w' b (kst l m) := by
  have hxl : x.size = 1 := by rw [hx]; rfl
  have hel : e.size = 1 := by rw [he]; rfl
  refine (typeF h (invE _) (l ++ x ++ m ++ e) (by simp only [ByteArray.size_append]; omega) (by simp only [ByteArray.size_append]; show 0 + _ ≤ _; omega)).mono ?_
  rintro e' w' ⟨rfl, h'⟩
  refine ⟨rfl, ?_⟩
  have h1 : (em ⟨#[]⟩).type (l ++ x ++ m ++ e).data.toList = kst l m := by
    unfold em kst
    simp only [ByteArray.data_append, Array.toList_append]
    rw [hx, he]
    have := type_kill l.data.toList m.data.toList [] 21 10 rfl rfl hs hm (by show l.size ≤ _; omega) (by show m.size ≤ _; omega)
    rw [List.nil_append] at this
    exact this
  rw [← h1]
  exact h'

theorem kst_li (l m B : ByteArray) (h : B.data.toList = (List.replicate l.size bsb).flatten) : kst l m = li (m ++ ⟨#[10]⟩) (l ++ B ++ m ++ ⟨#[10]⟩) := by
  unfold kst li
  rw [← h]
  simp only [ByteArray.data_append, Array.toList_append]

set_option maxRecDepth 100000 in
set_option maxHeartbeats 2000000 in
theorem kills_any (a b : ByteArray) (ha : a.size ≤ maxLen) (hb : b.size ≤ maxLen) (w : World) :
    Calls Try.prog 4 #[.string a, .string b] w fun e w' => e = .returned (.bool true) ∧ Below w.heap.size w w' := by
  have Ha := hide ha
  have Hb := hide hb
  clear ha hb
  go_enter Try.func4, Try.ntmps4
  go_wp2_with fail
  go_at_call 9
  refine (shown_true _).mono ?_
  rintro e w1 ⟨rfl, hg⟩
  have Hg1 := hide hg
  clear hg
  go_wp2_with fail
  go_at_call 10
  refine (newEF Hg1.out).mono ?_
  rintro e w2 ⟨rfl, h⟩
  have R0 := hide h
  clear h
  generalize w1.heap.size = bp at *
  go_wp2_with fail
  go_at_call 14
  refine (shows14 a Ha.out _).mono ?_
  rintro e w3 ⟨l, rfl, hl, hls, n3, rfl⟩
  have Hls := hide hls
  clear hls
  go_wp2_with fail
  go_at_call 14
  refine (shows14 b Hb.out _).mono ?_
  rintro e w4 ⟨m, rfl, hm, hms, n4, rfl⟩
  have Hms := hide hms
  clear hms
  go_wp2_with fail
  go_at_call 11
  refine (type_killF (R0.out.other (only_drewN (only_refl _ _) _)) l m _ _ rfl rfl Hls.out Hms.out hl hm).mono ?_
  rintro e w5 ⟨rfl, h⟩
  have F5 := hide h
  clear h R0
  go_wp2_with fail
  go_loopw [9, 10] (fun vs v wi => ∃ (j : Nat) (B : ByteArray), v = .int .i64 j ∧ vs = .string B ∧ j ≤ l.size ∧ B.size ≤ 3 * j ∧ B.data.toList = (List.replicate j bsb).flatten ∧ wi = w5) (fun _ v _ => l.size - (intOf v).toNat)
  case atStart => exact ⟨0, _, rfl, rfl, by omega, by decide, rfl, rfl⟩
  case round =>
    obtain ⟨j, B, rfl, rfl, hj, hB, hBB, rfl⟩ := hrel
    have HB := hide hBB
    clear hBB
    by_cases h1 : j < l.size
    · go_wp2
      go_roundw
      case rel => exact ⟨j + 1, _, by go_num, rfl, by omega, by rw [ByteArray.size_append]; show _ + 3 ≤ _; omega, by rw [ByteArray.data_append, Array.toList_append, HB.out, List.replicate_succ', List.flatten_append]; rfl, trivial⟩
      case measure => simp [intOf]; omega
    · have : j = l.size := by omega
      subst this
      have F6 := F5.out
      rw [kst_li l m B HB.out] at F6
      have G6 := hide F6
      clear F6 F5 HB
      go_wp2_with fail
      go_at_call 12
      refine (read_lineF G6.out 999 (by omega) (by rw [snoc_size]; omega) (by rw [snoc_size]; omega)).mono ?_
      rintro e w7 ⟨rfl, h⟩
      have F7 := hide h
      clear h
      go_wp2_with ((go_at_call 13; (with_reducible refine (screen_eF F7.out).mono ?_); rintro e w8 ⟨rfl, h⟩; (have F8 := hide h; clear h)))
      go_ret
      exact ⟨rfl, below_of_none F8.out.grown⟩

end Go.Proofs.Ytpabcopkecgphaa
