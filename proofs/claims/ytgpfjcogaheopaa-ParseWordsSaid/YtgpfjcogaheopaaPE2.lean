/- redirects, named. -/
import Derived.Test.YtgpfjcogaheopaaPE
import Derived.BigQuiet
set_option linter.all false
namespace Go.Proofs.Ytgpfjcogaheopaa
open Go.RowKit Lx
set_option maxRecDepth 100000

set_option maxHeartbeats 2000000 in
theorem redirects_any (t : Tok) (w : World) : Calls Try.prog 57 #[tokV t] w fun e w' => e = .returned (.bool (rdrB t)) ∧ w.grownBy w' none := by
  obtain ⟨tk, tt, ta⟩ := t
  have hR : rdrB ⟨tk, tt, ta⟩ = (tk == 2 && rdrW.contains tt) := rfl
  have HR := hide hR
  have Hc := hide (fun W a cap (h : StrL W a rdrW) => contains_any rdrW tt a cap W h (by decide))
  have HS := hide (fun (W : World) (b : Nat) (hb0 : W.heap.size = b) => (show StrL (W.alloc (.cells #[.string ⟨#[60]⟩, .string ⟨#[62]⟩, .string ⟨#[62, 62]⟩, .string ⟨#[60, 38]⟩, .string ⟨#[62, 38]⟩, .string ⟨#[60, 62]⟩, .string ⟨#[62, 124]⟩] 9)) (some ⟨b, 0, none⟩) rdrW by
    subst hb0
    intro i hi
    refine ⟨W.heap.size, 0, rfl, by rw [World.size_alloc]; omega, ?_⟩
    have hb := Blk.new W 9 #[.string ⟨#[60]⟩, .string ⟨#[62]⟩, .string ⟨#[62, 62]⟩, .string ⟨#[60, 38]⟩, .string ⟨#[62, 38]⟩, .string ⟨#[60, 62]⟩, .string ⟨#[62, 124]⟩]
    rw [Nat.zero_add, Blk.cell hb]
    have hi : i < 7 := hi
    match i, hi with
    | 0, _ => rfl
    | 1, _ => rfl
    | 2, _ => rfl
    | 3, _ => rfl
    | 4, _ => rfl
    | 5, _ => rfl
    | 6, _ => rfl))
  obtain ⟨B, hB⟩ : ∃ B, rdrW.contains tt = B := ⟨_, rfl⟩
  rw [hB] at Hc HR
  unfold sv at Hc
  rw [show (rdrW.length : Nat) = 7 from rfl] at Hc
  clear hR hB
  unfold tokV sv
  by_cases hk : tk = 2
  · subst hk
    go_enter Try.func57, Try.ntmps57
    go_wp2_with fail
    refine (Hc.out _ _ _ (HS.out _ _ (World.size_alloc _ _))).mono ?_
    rintro e w1 ⟨rfl, rfl⟩
    go_wp2_with fail
    go_ret
    exact ⟨ret_bool (a := B) (by rw [HR.out]; simp), only_alloc (only_alloc (only_refl w none) _) _⟩
  · have q : ((tk : Int) == 2) = false := by rw [beq_eq_false_iff_ne]; omega
    have HQ2 := hide (show (tk == 2) = false by rw [beq_eq_false_iff_ne]; exact hk)
    go_enter Try.func57, Try.ntmps57
    go_wp2_with fail
    go_ret
    exact ⟨ret_bool (a := false) (by rw [HR.out, HQ2.out]; rfl), only_alloc (only_refl w none) _⟩
set_option maxHeartbeats 2000000 in
theorem named_any (t : Tok) (w : World) (hs : t.t.length ≤ 9223372036854775807) : Calls Try.prog 79 #[tokV t] w fun e w' => e = .returned (.bool (namedB t)) ∧ w.grownBy w' none := by
  obtain ⟨tk, s, ta⟩ := t
  have HC := hide (show namedB ⟨tk, s, ta⟩ = (tk == 1 && nmGo true s == s.length) from rfl)
  have Hn := hide (fun W => name_any s W hs)
  have h1 := sz s
  unfold tokV
  unfold sv at Hn ⊢
  obtain ⟨n, hn⟩ : ∃ n, nmGo true s = n := ⟨_, rfl⟩
  rw [hn] at HC Hn
  clear hn
  have Hb := hide (Blk.new w 41 #[.int .i64 tk, .string ⟨s.toArray⟩, .int .i64 ta])
  have lb := Blk.lt Hb.out
  have c0 := Blk.cell Hb.out 0
  have c1 := Blk.cell Hb.out 1
  by_cases hk : tk = 1
  · subst hk
    go_enter Try.func79, Try.ntmps79
    go_wp2_with fail
    go_quiet ((go_at_call 91; exact Calls.quiet_of_same (Hn.out _)))
    go_wp2_with fail
    go_ret
    exact ⟨ret_bool (a := ((n : Int) == (s.length : Int))) (by rw [HC.out, Bool.eq_iff_iff]; first | (simp; done) | (simp; omega)), only_drewN (only_alloc (only_refl w none) _) _⟩
  · have q : ((tk : Int) == 1) = false := by rw [beq_eq_false_iff_ne]; omega
    have HQ2 := hide (show (tk == 1) = false by rw [beq_eq_false_iff_ne]; exact hk)
    go_enter Try.func79, Try.ntmps79
    go_wp2_with fail
    go_quiet (fail)
    go_wp2_with fail
    go_ret
    exact ⟨ret_bool (a := false) (by rw [HC.out, HQ2.out]; rfl), only_drewN (only_alloc (only_refl w none) _) _⟩

end Go.Proofs.Ytgpfjcogaheopaa
