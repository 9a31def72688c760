/- A step on both tables. -/
import Derived.Test.YtljlbdbgocohlaaU
namespace Go.Proofs.Ytljlbdbgocohlaa
open Go.RowKit Go.Maps

theorem leads_last (st : PS) (a : Int) : (leadsRes st a).1.last = st.last := by unfold leadsRes; split <;> rfl
theorem leaves_last (st : PS) (p : Pr) : (leavesRes st p).last = st.last := by unfold leavesRes; split <;> rfl
theorem becomes_last (st : PS) (a c : Int) : (becomesRes st a c).1.last = st.last := by
  unfold becomesRes
  split
  · split
    · rfl
    · split
      · rfl
      · split
        · exact (leaves_last _ _).trans room_last
        · rfl
  · rfl
theorem exit_last (st : PS) (a c : Int) : (exitRes st a c).1.last = st.last := by
  unfold exitRes
  split
  · split <;> rfl
  · rfl
theorem Inv.del_pos {st : PS} (h : Inv st) {pid c : Int} {k : Nat} (hk : waitAt pid c st.L 0 = some k) (hl : liveN st.L pid ≠ none) : 0 < (del st.L k).length := by
  have hw := (wait_inv h pid c).1.pos
  unfold waitRes at hw
  cases hn : liveN st.L pid with
  | none => exact absurd hn hl
  | some n =>
    rw [hn, hk] at hw
    simp only [leaves_L] at hw
    exact hw
section
variable {w0 w : World} {b b' : Nat} {K : Kept} {st st' : PS} {r : RS}
theorem rU (hi : Inv st) : st.rs.U.length ≤ 1000 := by have := hi.u8; show st.U.length ≤ 1000; omega
theorem leadsT (H : Hid (Both w0 w b b' K st r)) (Hi : Hid (Inv st)) (a : Int) : Calls Try.prog 11 #[.pointer (some ⟨b, 0, none⟩), .int .i64 a] w fun e w' => e = .returned (.int .i64 (leadsRes st a).2) ∧ Hid (Both w0 w' b b' K (leadsRes st a).1 r) :=
  (H.out.prog (fun S hS => leads_any b S st a w hS)).mono fun e w' h => ⟨h.1, hide h.2⟩
theorem leadsD (H : Hid (Both w0 w b b' K st' st.rs)) (Hi : Hid (Inv st)) (a : Int) : Calls Try.prog 29 #[.pointer (some ⟨b', 0, none⟩), .int .i64 a] w fun e w' => e = .returned (.int .i64 (leadsRes st a).2) ∧ Hid (Both w0 w' b b' K st' (leadsRes st a).1.rs) :=
  (H.out.doc (fun S hS => (by have := rleads_any b' S st.rs a w hS; rw [Hi.out.rs] at this; exact this))).mono fun e w' h => ⟨h.1, hide h.2⟩
theorem becomesT (H : Hid (Both w0 w b b' K st r)) (Hi : Hid (Inv st)) (a c : Int) : Calls Try.prog 10 #[.pointer (some ⟨b, 0, none⟩), .int .i64 a, .int .i64 c] w fun e w' => e = .returned (.int .i64 (becomesRes st a c).2) ∧ Hid (Both w0 w' b b' K (becomesRes st a c).1 r) :=
  (H.out.prog (fun S hS => becomes_any b S st a c w hS Hi.out.lite)).mono fun e w' h => ⟨h.1, hide h.2⟩
theorem becomesD (H : Hid (Both w0 w b b' K st' st.rs)) (Hi : Hid (Inv st)) (a c : Int) : Calls Try.prog 28 #[.pointer (some ⟨b', 0, none⟩), .int .i64 a, .int .i64 c] w fun e w' => e = .returned (.int .i64 (becomesRes st a c).2) ∧ Hid (Both w0 w' b b' K st' (becomesRes st a c).1.rs) :=
  (H.out.doc (fun S hS => (by have := rbecomes_any b' S st.rs a c w hS (rU Hi.out) Hi.out.kn; rw [Hi.out.rs] at this; exact this))).mono fun e w' h => ⟨h.1, hide h.2⟩
theorem exitT (H : Hid (Both w0 w b b' K st r)) (Hi : Hid (Inv st)) (a c : Int) : Calls Try.prog 12 #[.pointer (some ⟨b, 0, none⟩), .int .i64 a, .int .i64 c] w fun e w' => e = .returned (.int .i64 (exitRes st a c).2) ∧ Hid (Both w0 w' b b' K (exitRes st a c).1 r) :=
  (H.out.prog (fun S hS => exit_any b S st a c w hS)).mono fun e w' h => ⟨h.1, hide h.2⟩
theorem exitD (H : Hid (Both w0 w b b' K st' st.rs)) (Hi : Hid (Inv st)) (a c : Int) : Calls Try.prog 30 #[.pointer (some ⟨b', 0, none⟩), .int .i64 a, .int .i64 c] w fun e w' => e = .returned (.int .i64 (exitRes st a c).2) ∧ Hid (Both w0 w' b b' K st' (exitRes st a c).1.rs) :=
  (H.out.doc (fun S hS => (by have := rexit_any b' S st.rs a c w hS; rw [Hi.out.rs] at this; exact this))).mono fun e w' h => ⟨h.1, hide h.2⟩
theorem waitT (H : Hid (Both w0 w b b' K st r)) (Hi : Hid (Inv st)) (a c : Int) : Calls Try.prog 15 #[.pointer (some ⟨b, 0, none⟩), .int .i64 a, .int .i64 c] w fun e w' => e = .returned (.tuple #[.int .i64 (waitRes st a c).2.1, .int .i64 (waitRes st a c).2.2.1, .int .i64 (waitRes st a c).2.2.2]) ∧ Hid (Both w0 w' b b' K (waitRes st a c).1 r) :=
  (H.out.prog (fun S hS => wait_any b S st a c w hS Hi.out.lite (fun k hk hl => Hi.out.del_pos hk hl))).mono fun e w' h => ⟨h.1, hide h.2⟩
theorem waitD (H : Hid (Both w0 w b b' K st' st.rs)) (Hi : Hid (Inv st)) (a c : Int) : Calls Try.prog 31 #[.pointer (some ⟨b', 0, none⟩), .int .i64 a, .int .i64 c] w fun e w' => e = .returned (.tuple #[.int .i64 (waitRes st a c).2.1, .int .i64 (waitRes st a c).2.2.1, .int .i64 (waitRes st a c).2.2.2]) ∧ Hid (Both w0 w' b b' K st' (waitRes st a c).1.rs) :=
  (H.out.doc (fun S hS => (by have := rwait_any b' S st.rs a c w hS Hi.out.kn (fun k hk hl => Hi.out.del_pos hk hl); rw [Hi.out.rs] at this; exact this))).mono fun e w' h => ⟨h.1, hide h.2⟩
theorem forkT (H : Hid (Both w0 w b b' K st r)) (Hi : Hid (Inv st)) (hl : st.last ≤ 200000) (a : Int) (on : Bool) : Calls Try.prog 9 #[.pointer (some ⟨b, 0, none⟩), .int .i64 a, .bool on] w fun e w' => e = .returned (.tuple #[.int .i64 (forkRes st a on).2.1, .int .i64 (forkRes st a on).2.2]) ∧ Hid (Both w0 w' b b' K (forkRes st a on).1 r) :=
  (H.out.prog (fun S hS => fork_any b S st a on w hS Hi.out.lite (by have := Hi.out.lo; omega) (by have := Hi.out.len; omega))).mono fun e w' h => ⟨h.1, hide h.2⟩
end

theorem fork_rs_some {st : PS} {par : Int} {p : Pr} (hok : (roomRes st p.usr).2 = 0) : (addPr (roomRes st p.usr).1 (child st par p false)).rs = ⟨st.L ++ [child st par p false], st.last + 1, learn st.U p.usr⟩ := by
  obtain ⟨h1, _, _⟩ := room_ok hok
  rw [h1]
  rfl
theorem rfork_any (b : Nat) (S : Nat → Prop) (st : PS) (hi : Inv st) (par : Int) (res : Bool) (w : World) (h : RIs w b S st.rs) (hlast : st.last ≤ 200000) :
    Calls Try.prog 27 #[.pointer (some ⟨b, 0, none⟩), .int .i64 par, .bool res] w fun e w' => e = .returned (.tuple #[.int .i64 (forkRes st par res).2.1, .int .i64 (forkRes st par res).2.2]) ∧ RTo w w' b S (forkRes st par res).1.rs := by
  have hla : 0 ≤ st.rs.last ∧ st.rs.last ≤ 1000000 := by have := hi.lo; show 0 ≤ st.last ∧ st.last ≤ 1000000; omega
  have hle : st.rs.L.length < 1000000 := by have := hi.len; show st.L.length < 1000000; omega
  unfold forkRes
  cases hl : liveN st.L par with
  | none => exact rfork_none b S st.rs par res w h hl
  | some n =>
    cases res with
    | true =>
      simp only [if_true]
      by_cases h1 : par = 1
      · subst h1
        rw [if_neg (by simp)]
        by_cases h5 : 5 ≤ st.spare
        · rw [if_pos h5]
          exact rfork_full b S st.rs w h n hl (by show 5 ≤ rcnt st.L; rw [← hi.sp]; exact h5) hle
        · rw [if_neg h5]
          exact rfork_res b S st.rs w h hla hle n hl (by show ¬ 5 ≤ rcnt st.L; rw [← hi.sp]; exact h5)
      · rw [if_pos h1]
        exact rfork_perm b S st.rs par w h n hl h1
    | false =>
      simp only [Bool.false_eq_true, if_false]
      have hrs := hi.rs
      by_cases hr : (roomRes st (st.L.getD n pr0).usr).2 = 0
      · rw [if_pos hr]
        simp only
        rw [fork_rs_some hr]
        exact rfork_some b S st.rs par w h hla hle (rU hi) n hl (by rw [hrs]; exact hr)
      · rw [if_neg hr]
        have := rfork_noroom b S st.rs par w h n hl (by rw [hrs]; exact hr)
        rw [hrs] at this
        exact this
theorem forkD {w0 w : World} {b b' : Nat} {K : Kept} {st st' : PS} (H : Hid (Both w0 w b b' K st' st.rs)) (Hi : Hid (Inv st)) (hl : st.last ≤ 200000) (a : Int) (on : Bool) : Calls Try.prog 27 #[.pointer (some ⟨b', 0, none⟩), .int .i64 a, .bool on] w fun e w' => e = .returned (.tuple #[.int .i64 (forkRes st a on).2.1, .int .i64 (forkRes st a on).2.2]) ∧ Hid (Both w0 w' b b' K st' (forkRes st a on).1.rs) :=
  (H.out.doc (fun S hS => rfork_any b' S st Hi.out a on w hS hl)).mono fun e w' h => ⟨h.1, hide h.2⟩

set_option maxHeartbeats 2000000 in
theorem does_1 {w0 w : World} {b b' : Nat} {K : Kept} {st : PS} (h : Both w0 w b b' K st st.rs) (hi : Inv st) (hl : st.last ≤ 100000) (k a c : Int) (on : Bool) (q1 : (k == 1) = true) :
    Calls Try.prog 17 #[.pointer (some ⟨b, 0, none⟩), .pointer (some ⟨b', 0, none⟩), .agg #[.int .i64 k, .int .i64 a, .int .i64 c, .bool on]] w fun e w' => e = .returned (.bool true) ∧ ∃ st1, Both w0 w' b b' K st1 st1.rs ∧ Inv st1 ∧ st1.last ≤ st.last + 1 := by
  have HB := hide (h.lay_ 45 #[.int .i64 k, .int .i64 a, .int .i64 c, .bool on])
  have Hi := hide hi
  have hK : lay K w.heap.size (.cells #[.int .i64 k, .int .i64 a, .int .i64 c, .bool on] 45) w.heap.size (.cells #[.int .i64 k, .int .i64 a, .int .i64 c, .bool on] 45) := .inl ⟨rfl, rfl⟩
  have hKd : ∀ k' o, K k' o → lay K w.heap.size (.cells #[.int .i64 k, .int .i64 a, .int .i64 c, .bool on] 45) k' o := fun _ _ h => .inr h
  clear h hi
  have hk1 : (w.alloc (.cells #[.int .i64 k, .int .i64 a, .int .i64 c, .bool on] 45)).cell? ⟨w.heap.size, 1, none⟩ = some (.int .i64 a) := (HB.out.kept hK).cell 1
  obtain ⟨⟨st1, y1, y2⟩, hE⟩ : ∃ p, forkRes st a on = p := ⟨_, rfl⟩
  have hi1 : Inv st1 ∧ st1.last ≤ st.last + 1 := by have := fork_inv Hi.out a on; rw [hE] at this; exact ⟨this.1, by have := this.2; simp only at this; omega⟩
  have HE := hide hE
  have Hi1 := hide hi1
  clear hE hi1 hk1
  go_enter Try.func17, Try.ntmps17
  go_wp2_with fail
  go_at_call 9
  refine (forkT HB Hi (by omega) a on).mono ?_
  rw [HE.out]
  rintro e w4 ⟨rfl, HB1⟩
  have hd1 : w4.cell? ⟨w.heap.size, 1, none⟩ = some (.int .i64 a) := (HB1.out.kept hK).cell 1
  have hd2 : w4.cell? ⟨w.heap.size, 2, none⟩ = some (.int .i64 c) := (HB1.out.kept hK).cell 2
  have hd3 : w4.cell? ⟨w.heap.size, 3, none⟩ = some (.bool on) := (HB1.out.kept hK).cell 3
  clear HB
  go_wp2_with fail
  go_at_call 27
  refine (forkD HB1 Hi (by omega) a on).mono ?_
  rw [HE.out]
  rintro e w5 ⟨rfl, HB2⟩
  clear HB1 hd1 hd2 hd3
  go_wp2
  go_ret
  exact ⟨rfl, st1, HB2.out.drop hKd, Hi1.out.1, Hi1.out.2⟩

set_option maxHeartbeats 2000000 in
theorem does_2 {w0 w : World} {b b' : Nat} {K : Kept} {st : PS} (h : Both w0 w b b' K st st.rs) (hi : Inv st) (hl : st.last ≤ 100000) (k a c : Int) (on : Bool) (q1 : (k == 1) = false) (q2 : (k == 2) = true) :
    Calls Try.prog 17 #[.pointer (some ⟨b, 0, none⟩), .pointer (some ⟨b', 0, none⟩), .agg #[.int .i64 k, .int .i64 a, .int .i64 c, .bool on]] w fun e w' => e = .returned (.bool true) ∧ ∃ st1, Both w0 w' b b' K st1 st1.rs ∧ Inv st1 ∧ st1.last ≤ st.last + 1 := by
  have HB := hide (h.lay_ 45 #[.int .i64 k, .int .i64 a, .int .i64 c, .bool on])
  have Hi := hide hi
  have hK : lay K w.heap.size (.cells #[.int .i64 k, .int .i64 a, .int .i64 c, .bool on] 45) w.heap.size (.cells #[.int .i64 k, .int .i64 a, .int .i64 c, .bool on] 45) := .inl ⟨rfl, rfl⟩
  have hKd : ∀ k' o, K k' o → lay K w.heap.size (.cells #[.int .i64 k, .int .i64 a, .int .i64 c, .bool on] 45) k' o := fun _ _ h => .inr h
  clear h hi
  obtain ⟨⟨st1, y⟩, hE⟩ : ∃ p, becomesRes st a c = p := ⟨_, rfl⟩
  have hi1 : Inv st1 := by have := becomes_inv Hi.out a c; rw [hE] at this; exact this
  have hl1 : st1.last = st.last := by have := becomes_last st a c; rw [hE] at this; exact this
  have HE := hide hE
  have Hi1 := hide hi1
  have Hl1 := hide hl1
  clear hE hi1 hl1
  go_enter Try.func17, Try.ntmps17
  go_wp2_with fail
  have HBD := hide (HB.out.gr_ (only_drew (only_refl _ none)))
  have hd1 : (w.alloc (.cells #[.int .i64 k, .int .i64 a, .int .i64 c, .bool on] 45)).drew.cell? ⟨w.heap.size, 1, none⟩ = some (.int .i64 a) := (HBD.out.kept hK).cell 1
  have hd2 : (w.alloc (.cells #[.int .i64 k, .int .i64 a, .int .i64 c, .bool on] 45)).drew.cell? ⟨w.heap.size, 2, none⟩ = some (.int .i64 c) := (HBD.out.kept hK).cell 2
  clear HB
  go_region_held3 (fun w' => w'.cell? ⟨w.heap.size, 1, none⟩ = some (.int .i64 a) ∧ w'.cell? ⟨w.heap.size, 2, none⟩ = some (.int .i64 c)) (first | go_keep | exact ⟨(HB1.out.kept hK).cell 1, (HB1.out.kept hK).cell 2⟩ | exact ⟨(HB2.out.kept hK).cell 1, (HB2.out.kept hK).cell 2⟩)
    (first
      | (go_at_call 10; refine (becomesT (by assumption) Hi a c).mono ?_; rw [HE.out]; rintro e w4 ⟨rfl, HB1⟩)
      | (go_at_call 28; refine (becomesD (by assumption) Hi a c).mono ?_; rw [HE.out]; rintro e w5 ⟨rfl, HB2⟩))
  all_goals
    first
    | have HB9 := (HB2 : Hid (Both w0 w5 b b' _ st1 st1.rs))
    | have HB9 := (HB1 : Hid (Both w0 w4 b b' _ st1 st1.rs))
    go_wp2
    go_ret
    exact ⟨rfl, st1, HB9.out.drop hKd, Hi1.out, by have := Hl1.out; omega⟩

set_option maxHeartbeats 2000000 in
theorem does_3 {w0 w : World} {b b' : Nat} {K : Kept} {st : PS} (h : Both w0 w b b' K st st.rs) (hi : Inv st) (hl : st.last ≤ 100000) (k a c : Int) (on : Bool) (q1 : (k == 1) = false) (q2 : (k == 2) = false) (q3 : (k == 3) = true) :
    Calls Try.prog 17 #[.pointer (some ⟨b, 0, none⟩), .pointer (some ⟨b', 0, none⟩), .agg #[.int .i64 k, .int .i64 a, .int .i64 c, .bool on]] w fun e w' => e = .returned (.bool true) ∧ ∃ st1, Both w0 w' b b' K st1 st1.rs ∧ Inv st1 ∧ st1.last ≤ st.last + 1 := by
  have HB := hide (h.lay_ 45 #[.int .i64 k, .int .i64 a, .int .i64 c, .bool on])
  have Hi := hide hi
  have hK : lay K w.heap.size (.cells #[.int .i64 k, .int .i64 a, .int .i64 c, .bool on] 45) w.heap.size (.cells #[.int .i64 k, .int .i64 a, .int .i64 c, .bool on] 45) := .inl ⟨rfl, rfl⟩
  have hKd : ∀ k' o, K k' o → lay K w.heap.size (.cells #[.int .i64 k, .int .i64 a, .int .i64 c, .bool on] 45) k' o := fun _ _ h => .inr h
  clear h hi
  obtain ⟨⟨st1, y⟩, hE⟩ : ∃ p, leadsRes st a = p := ⟨_, rfl⟩
  have hi1 : Inv st1 := by have := leads_inv Hi.out a; rw [hE] at this; exact this
  have hl1 : st1.last = st.last := by have := leads_last st a; rw [hE] at this; exact this
  have HE := hide hE
  have Hi1 := hide hi1
  have Hl1 := hide hl1
  clear hE hi1 hl1
  go_enter Try.func17, Try.ntmps17
  go_wp2_with fail
  have HBD := hide (HB.out.gr_ (only_drew (only_refl _ none)))
  have hd1 : (w.alloc (.cells #[.int .i64 k, .int .i64 a, .int .i64 c, .bool on] 45)).drew.cell? ⟨w.heap.size, 1, none⟩ = some (.int .i64 a) := (HBD.out.kept hK).cell 1
  have hd2 : (w.alloc (.cells #[.int .i64 k, .int .i64 a, .int .i64 c, .bool on] 45)).drew.cell? ⟨w.heap.size, 2, none⟩ = some (.int .i64 c) := (HBD.out.kept hK).cell 2
  clear HB
  go_region_held3 (fun w' => w'.cell? ⟨w.heap.size, 1, none⟩ = some (.int .i64 a) ∧ w'.cell? ⟨w.heap.size, 2, none⟩ = some (.int .i64 c)) (first | go_keep | exact ⟨(HB1.out.kept hK).cell 1, (HB1.out.kept hK).cell 2⟩ | exact ⟨(HB2.out.kept hK).cell 1, (HB2.out.kept hK).cell 2⟩)
    (first
      | (go_at_call 11; refine (leadsT (by assumption) Hi a).mono ?_; rw [HE.out]; rintro e w4 ⟨rfl, HB1⟩)
      | (go_at_call 29; refine (leadsD (by assumption) Hi a).mono ?_; rw [HE.out]; rintro e w5 ⟨rfl, HB2⟩))
  all_goals
    first
    | have HB9 := (HB2 : Hid (Both w0 w5 b b' _ st1 st1.rs))
    | have HB9 := (HB1 : Hid (Both w0 w4 b b' _ st1 st1.rs))
    go_wp2
    go_ret
    exact ⟨rfl, st1, HB9.out.drop hKd, Hi1.out, by have := Hl1.out; omega⟩

set_option maxHeartbeats 2000000 in
theorem does_4 {w0 w : World} {b b' : Nat} {K : Kept} {st : PS} (h : Both w0 w b b' K st st.rs) (hi : Inv st) (hl : st.last ≤ 100000) (k a c : Int) (on : Bool) (q1 : (k == 1) = false) (q2 : (k == 2) = false) (q3 : (k == 3) = false) (q4 : (k == 4) = true) :
    Calls Try.prog 17 #[.pointer (some ⟨b, 0, none⟩), .pointer (some ⟨b', 0, none⟩), .agg #[.int .i64 k, .int .i64 a, .int .i64 c, .bool on]] w fun e w' => e = .returned (.bool true) ∧ ∃ st1, Both w0 w' b b' K st1 st1.rs ∧ Inv st1 ∧ st1.last ≤ st.last + 1 := by
  have HB := hide (h.lay_ 45 #[.int .i64 k, .int .i64 a, .int .i64 c, .bool on])
  have Hi := hide hi
  have hK : lay K w.heap.size (.cells #[.int .i64 k, .int .i64 a, .int .i64 c, .bool on] 45) w.heap.size (.cells #[.int .i64 k, .int .i64 a, .int .i64 c, .bool on] 45) := .inl ⟨rfl, rfl⟩
  have hKd : ∀ k' o, K k' o → lay K w.heap.size (.cells #[.int .i64 k, .int .i64 a, .int .i64 c, .bool on] 45) k' o := fun _ _ h => .inr h
  clear h hi
  obtain ⟨⟨st1, y⟩, hE⟩ : ∃ p, exitRes st a c = p := ⟨_, rfl⟩
  have hi1 : Inv st1 := by have := exit_inv Hi.out a c; rw [hE] at this; exact this
  have hl1 : st1.last = st.last := by have := exit_last st a c; rw [hE] at this; exact this
  have HE := hide hE
  have Hi1 := hide hi1
  have Hl1 := hide hl1
  clear hE hi1 hl1
  go_enter Try.func17, Try.ntmps17
  go_wp2_with fail
  have HBD := hide (HB.out.gr_ (only_drew (only_refl _ none)))
  have hd1 : (w.alloc (.cells #[.int .i64 k, .int .i64 a, .int .i64 c, .bool on] 45)).drew.cell? ⟨w.heap.size, 1, none⟩ = some (.int .i64 a) := (HBD.out.kept hK).cell 1
  have hd2 : (w.alloc (.cells #[.int .i64 k, .int .i64 a, .int .i64 c, .bool on] 45)).drew.cell? ⟨w.heap.size, 2, none⟩ = some (.int .i64 c) := (HBD.out.kept hK).cell 2
  clear HB
  go_region_held3 (fun w' => w'.cell? ⟨w.heap.size, 1, none⟩ = some (.int .i64 a) ∧ w'.cell? ⟨w.heap.size, 2, none⟩ = some (.int .i64 c)) (first | go_keep | exact ⟨(HB1.out.kept hK).cell 1, (HB1.out.kept hK).cell 2⟩ | exact ⟨(HB2.out.kept hK).cell 1, (HB2.out.kept hK).cell 2⟩)
    (first
      | (go_at_call 12; refine (exitT (by assumption) Hi a c).mono ?_; rw [HE.out]; rintro e w4 ⟨rfl, HB1⟩)
      | (go_at_call 30; refine (exitD (by assumption) Hi a c).mono ?_; rw [HE.out]; rintro e w5 ⟨rfl, HB2⟩))
  all_goals
    first
    | have HB9 := (HB2 : Hid (Both w0 w5 b b' _ st1 st1.rs))
    | have HB9 := (HB1 : Hid (Both w0 w4 b b' _ st1 st1.rs))
    go_wp2
    go_ret
    exact ⟨rfl, st1, HB9.out.drop hKd, Hi1.out, by have := Hl1.out; omega⟩

set_option maxHeartbeats 2000000 in
theorem does_5 {w0 w : World} {b b' : Nat} {K : Kept} {st : PS} (h : Both w0 w b b' K st st.rs) (hi : Inv st) (hl : st.last ≤ 100000) (k a c : Int) (on : Bool) (q1 : (k == 1) = false) (q2 : (k == 2) = false) (q3 : (k == 3) = false) (q4 : (k == 4) = false) :
    Calls Try.prog 17 #[.pointer (some ⟨b, 0, none⟩), .pointer (some ⟨b', 0, none⟩), .agg #[.int .i64 k, .int .i64 a, .int .i64 c, .bool on]] w fun e w' => e = .returned (.bool true) ∧ ∃ st1, Both w0 w' b b' K st1 st1.rs ∧ Inv st1 ∧ st1.last ≤ st.last + 1 := by
  have HB := hide (h.lay_ 45 #[.int .i64 k, .int .i64 a, .int .i64 c, .bool on])
  have Hi := hide hi
  have hK : lay K w.heap.size (.cells #[.int .i64 k, .int .i64 a, .int .i64 c, .bool on] 45) w.heap.size (.cells #[.int .i64 k, .int .i64 a, .int .i64 c, .bool on] 45) := .inl ⟨rfl, rfl⟩
  have hKd : ∀ k' o, K k' o → lay K w.heap.size (.cells #[.int .i64 k, .int .i64 a, .int .i64 c, .bool on] 45) k' o := fun _ _ h => .inr h
  clear h hi
  have hk1 : (w.alloc (.cells #[.int .i64 k, .int .i64 a, .int .i64 c, .bool on] 45)).cell? ⟨w.heap.size, 1, none⟩ = some (.int .i64 a) := (HB.out.kept hK).cell 1
  obtain ⟨⟨st1, y1, y2, y3⟩, hE⟩ : ∃ p, waitRes st a c = p := ⟨_, rfl⟩
  have hi1 : Inv st1 ∧ st1.last ≤ st.last + 1 := by have := wait_inv Hi.out a c; rw [hE] at this; exact ⟨this.1, by have := this.2; simp only at this; omega⟩
  have HE := hide hE
  have Hi1 := hide hi1
  clear hE hi1 hk1
  go_enter Try.func17, Try.ntmps17
  go_wp2_with fail
  go_at_call 15
  refine (waitT HB Hi a c).mono ?_
  rw [HE.out]
  rintro e w4 ⟨rfl, HB1⟩
  have hd1 : w4.cell? ⟨w.heap.size, 1, none⟩ = some (.int .i64 a) := (HB1.out.kept hK).cell 1
  have hd2 : w4.cell? ⟨w.heap.size, 2, none⟩ = some (.int .i64 c) := (HB1.out.kept hK).cell 2
  have hd3 : w4.cell? ⟨w.heap.size, 3, none⟩ = some (.bool on) := (HB1.out.kept hK).cell 3
  clear HB
  go_wp2_with fail
  go_at_call 31
  refine (waitD HB1 Hi a c).mono ?_
  rw [HE.out]
  rintro e w5 ⟨rfl, HB2⟩
  clear HB1 hd1 hd2 hd3
  go_wp2
  go_ret
  exact ⟨rfl, st1, HB2.out.drop hKd, Hi1.out.1, Hi1.out.2⟩

theorem does_any {w0 w : World} {b b' : Nat} {K : Kept} {st : PS} (h : Both w0 w b b' K st st.rs) (hi : Inv st) (hl : st.last ≤ 100000) (k a c : Int) (on : Bool) :
    Calls Try.prog 17 #[.pointer (some ⟨b, 0, none⟩), .pointer (some ⟨b', 0, none⟩), .agg #[.int .i64 k, .int .i64 a, .int .i64 c, .bool on]] w fun e w' => e = .returned (.bool true) ∧ ∃ st1, Both w0 w' b b' K st1 st1.rs ∧ Inv st1 ∧ st1.last ≤ st.last + 1 := by
  by_cases q1 : (k == 1) = true
  · exact does_1 h hi hl k a c on q1
  · by_cases q2 : (k == 2) = true
    · exact does_2 h hi hl k a c on (by simpa using q1) q2
    · by_cases q3 : (k == 3) = true
      · exact does_3 h hi hl k a c on (by simpa using q1) (by simpa using q2) q3
      · by_cases q4 : (k == 4) = true
        · exact does_4 h hi hl k a c on (by simpa using q1) (by simpa using q2) (by simpa using q3) q4
        · exact does_5 h hi hl k a c on (by simpa using q1) (by simpa using q2) (by simpa using q3) (by simpa using q4)

end Go.Proofs.Ytljlbdbgocohlaa
