/- One table alone; the walk of shown. -/
import Derived.Test.YtljlbdbgocohlaaV
namespace Go.Proofs.Ytljlbdbgocohlaa
open Go.RowKit Go.Maps

/-- One table alone, whose blocks are new to w0, beside blocks that are kept. -/
structure SoloS (w0 w : World) (b : Nat) (S : Nat → Prop) (K : Kept) (st : PS) : Prop where
  tab : TabIs w b S st
  new : ∀ k, S k → w0.heap.size ≤ k
  gr : w0.grownBy w none
  kp : ∀ k o, K k o → w.heap[k]? = some o ∧ ¬ S k
def SoloK (w0 w : World) (b : Nat) (K : Kept) (st : PS) : Prop := ∃ S, SoloS w0 w b S K st
def Solo (w0 w : World) (b : Nat) (st : PS) : Prop := SoloK w0 w b none_ st
section
variable {w0 w w' : World} {b : Nat} {st st1 : PS} {K : Kept}
theorem SoloK.prog (h : SoloK w0 w b K st) {f : Nat} {args : Array Value} {P : Ending → Prop} (hc : ∀ S, TabIs w b S st → Calls Try.prog f args w (fun e w' => P e ∧ TabTo w w' b S st1)) :
    Calls Try.prog f args w (fun e w' => P e ∧ Hid (SoloK w0 w' b K st1)) := by
  obtain ⟨S, h⟩ := h
  refine (hc S h.tab).mono ?_
  rintro e w' ⟨hp, S1, hT, hS1, hC⟩
  refine ⟨hp, hide ⟨S1, hT, fun k hk => ?_, ?_, fun k o hk => ?_⟩⟩
  · rcases hS1 k hk with e | e
    · exact h.new k e
    · exact Nat.le_trans h.gr.size e
  · exact ((Chg.of_grown h.gr (fun _ h => by cases h) : Chg S w0 w).trans hC (fun _ _ h => h)).grown (fun k hk hs => by have := h.new k hs; omega)
  · obtain ⟨h1, h2⟩ := h.kp k o hk
    have hlt : k < w.heap.size := (Array.getElem?_eq_some_iff.1 h1).1
    refine ⟨(hC.block k hlt h2).trans h1, fun hs => ?_⟩
    rcases hS1 k hs with e | e
    · exact h2 e
    · omega
theorem SoloK.gr_ (h : SoloK w0 w b K st) (hg : w.grownBy w' none) : SoloK w0 w' b K st := by
  obtain ⟨S, h⟩ := h
  refine ⟨S, h.tab.gr hg, h.new, only_trans h.gr hg, fun k o hk => ?_⟩
  obtain ⟨h1, h2⟩ := h.kp k o hk
  exact ⟨(hg.block k (Array.getElem?_eq_some_iff.1 h1).1 (by simp)).trans h1, h2⟩
theorem SoloK.also (h : SoloK w0 w b K st) (hg : w.grownBy w' none) {k : Nat} {o : Obj} (hk : w.heap.size ≤ k) (ho : w'.heap[k]? = some o) : SoloK w0 w' b (lay K k o) st := by
  obtain ⟨S, h⟩ := h
  refine ⟨S, h.tab.gr hg, h.new, only_trans h.gr hg, fun k' o' hk' => ?_⟩
  rcases hk' with ⟨rfl, rfl⟩ | hk'
  · exact ⟨ho, fun hs => by have := h.tab.lt hs; omega⟩
  · obtain ⟨h1, h2⟩ := h.kp k' o' hk'
    exact ⟨(hg.block k' (Array.getElem?_eq_some_iff.1 h1).1 (by simp)).trans h1, h2⟩
theorem SoloK.held (h : SoloK w0 w b K st) {k : Nat} {o : Obj} (hk : K k o) : w.heap[k]? = some o := by
  obtain ⟨S, h⟩ := h
  exact (h.kp k _ hk).1
theorem SoloK.drop (h : SoloK w0 w b K st) {K' : Kept} (hk : ∀ k o, K' k o → K k o) : SoloK w0 w b K' st := by
  obtain ⟨S, h⟩ := h
  exact ⟨S, h.tab, h.new, h.gr, fun k o hc => h.kp k o (hk k o hc)⟩
theorem SoloK.at (h : SoloK w0 w b K st) : ∃ v mb, TabAt w b v mb st := by
  obtain ⟨S, h⟩ := h
  obtain ⟨v, mb, h, _⟩ := h.tab
  exact ⟨v, mb, h⟩
theorem SoloK.grown (h : SoloK w0 w b K st) : w0.grownBy w none := by
  obtain ⟨S, h⟩ := h
  exact h.gr
theorem Both.solo {b' : Nat} {r : RS} (h : Both w0 w b b' K st r) : SoloK w0 w b K st := by
  obtain ⟨S, S', h⟩ := h
  exact ⟨S, h.tab, h.new, h.gr, fun k o hk => ⟨(h.kp k o hk).1, (h.kp k o hk).2.1⟩⟩
theorem solo_new (w : World) : Calls Try.prog 8 #[] w fun e w' => ∃ b, e = .returned (.pointer (some ⟨b, 0, none⟩)) ∧ Hid (Solo w w' b newPS) :=
  (new_any w).mono fun e w' ⟨b, S, h1, h2⟩ => ⟨b, h1, hide ⟨S, h2.tab, h2.new, h2.gr, fun _ _ h => h.elim⟩⟩
theorem sFork (H : Hid (SoloK w0 w b K st)) (hi : Inv st) (hl : st.last ≤ 200000) (a : Int) (on : Bool) {x y : Int} (hr : (forkRes st a on).2 = (x, y)) : Calls Try.prog 9 #[.pointer (some ⟨b, 0, none⟩), .int .i64 a, .bool on] w fun e w' => e = .returned (.tuple #[.int .i64 x, .int .i64 y]) ∧ Hid (SoloK w0 w' b K (forkRes st a on).1) := by
  have := H.out.prog (fun S hS => fork_any b S st a on w hS hi.lite (by have := hi.lo; omega) (by have := hi.len; omega))
  rw [hr] at this
  exact this
theorem sBecomes (H : Hid (SoloK w0 w b K st)) (hi : Inv st) (a c : Int) {x : Int} (hr : (becomesRes st a c).2 = x) : Calls Try.prog 10 #[.pointer (some ⟨b, 0, none⟩), .int .i64 a, .int .i64 c] w fun e w' => e = .returned (.int .i64 x) ∧ Hid (SoloK w0 w' b K (becomesRes st a c).1) := by
  have := H.out.prog (fun S hS => becomes_any b S st a c w hS hi.lite)
  rw [hr] at this
  exact this
theorem sLeads (H : Hid (SoloK w0 w b K st)) (a : Int) {x : Int} (hr : (leadsRes st a).2 = x) : Calls Try.prog 11 #[.pointer (some ⟨b, 0, none⟩), .int .i64 a] w fun e w' => e = .returned (.int .i64 x) ∧ Hid (SoloK w0 w' b K (leadsRes st a).1) := by
  have := H.out.prog (fun S hS => leads_any b S st a w hS)
  rw [hr] at this
  exact this
theorem sExit (H : Hid (SoloK w0 w b K st)) (a c : Int) {x : Int} (hr : (exitRes st a c).2 = x) : Calls Try.prog 12 #[.pointer (some ⟨b, 0, none⟩), .int .i64 a, .int .i64 c] w fun e w' => e = .returned (.int .i64 x) ∧ Hid (SoloK w0 w' b K (exitRes st a c).1) := by
  have := H.out.prog (fun S hS => exit_any b S st a c w hS)
  rw [hr] at this
  exact this
theorem sWait (H : Hid (SoloK w0 w b K st)) (hi : Inv st) (a c : Int) {x y z : Int} (hr : (waitRes st a c).2 = (x, y, z)) : Calls Try.prog 15 #[.pointer (some ⟨b, 0, none⟩), .int .i64 a, .int .i64 c] w fun e w' => e = .returned (.tuple #[.int .i64 x, .int .i64 y, .int .i64 z]) ∧ Hid (SoloK w0 w' b K (waitRes st a c).1) := by
  have := H.out.prog (fun S hS => wait_any b S st a c w hS hi.lite (fun k hk hl => hi.del_pos hk hl))
  rw [hr] at this
  exact this
theorem sCount (H : Hid (SoloK w0 w b K st)) (u : Int) (hu : wfi u) : Calls Try.prog 13 #[.pointer (some ⟨b, 0, none⟩), .int .i64 u] w fun e w' => e = .returned (.int .i64 (st.f u)) ∧ w = w' := by
  obtain ⟨v, mb, h⟩ := H.out.at
  exact count_any b v mb st u hu w h
end

theorem new_inv : Inv newPS := by
  refine ⟨fun u => ?_, rfl, fun p hp hr => ?_, by decide, fun u => ?_, by decide, fun p hp => ?_, ⟨?_, ?_, ⟨[], rfl⟩, ?_⟩, by decide⟩
  · simp [newPS, cnt, ind, pr1]
  · obtain rfl := List.mem_singleton.1 hp
    cases hr
  · simp [newPS, cnt, ind, pr1]
  · obtain rfl := List.mem_singleton.1 hp
    simp [pr1]
  · simp [newPS]
  · intro p hp
    obtain rfl := List.mem_singleton.1 hp
    simp [newPS, sig, pr1]
  · intro p hp
    obtain rfl := List.mem_singleton.1 hp
    exact .inl rfl

def G0 : PS := (forkRes newPS 1 true).1
def F0 : PS := (becomesRes G0 2 5).1
def Fk : Nat → PS
  | 0 => F0
  | n + 1 => (forkRes (Fk n) 2 false).1
def E1 : PS := (exitRes (Fk 5) 3 7).1
def W1 : PS := (waitRes E1 2 0).1
def V1 : PS := (forkRes W1 2 false).1
theorem iF : ∀ n, Inv (Fk n) ∧ (Fk n).last ≤ 2 + n
  | 0 => ⟨becomes_inv (fork_inv new_inv 1 true).1 2 5, by have h : (Fk 0).last = 2 := (by kernel_rfl); omega⟩
  | n + 1 => ⟨(fork_inv (iF n).1 2 false).1, by have := (fork_inv (iF n).1 2 false).2; have := (iF n).2; simp only [Fk]; omega⟩
theorem rF (n : Nat) (h : n < 5) : (forkRes (Fk n) 2 false).2 = ((n : Int) + 3, 0) :=
  match n, h with
  | 0, _ => by kernel_rfl
  | 1, _ => by kernel_rfl
  | 2, _ => by kernel_rfl
  | 3, _ => by kernel_rfl
  | 4, _ => by kernel_rfl
theorem iE : Inv E1 := exit_inv (iF 5).1 3 7
theorem iW : Inv W1 := (wait_inv iE 2 0).1

set_option maxHeartbeats 2000000 in
theorem shown_true (w : World) : Calls Try.prog 7 #[] w fun e w' => e = .returned (.bool true) ∧ w.grownBy w' none := by
  go_enter Try.func7, Try.ntmps7
  go_wp2_with fail
  refine (solo_new w).mono ?_
  rintro e w1 ⟨b, rfl, H0⟩
  go_wp2_with fail
  go_at_call 9
  refine (sFork H0 new_inv (by decide) 1 true (x := 2) (y := 0) (by kernel_rfl)).mono ?_
  rintro e w2 ⟨rfl, H1⟩
  go_wp2_with fail
  go_at_call 10
  refine (sBecomes H1 (fork_inv new_inv 1 true).1 2 5 (x := 0) (by kernel_rfl)).mono ?_
  rintro e w3 ⟨rfl, H2⟩
  clear H0 H1
  have H3 := hide (show Solo w w3 b (Fk 0) from H2.out)
  clear H2
  go_wp2_with fail
  go_loopw [5] (fun u wr => ∃ k : Nat, u = .int .i64 k ∧ k ≤ 5 ∧ Hid (Solo w wr b (Fk k))) (fun u _ => 9 - (intOf u).toNat)
  case atStart => exact ⟨0, rfl, by omega, H3⟩
  case round =>
    obtain ⟨k, rfl, hk, HS⟩ := hrel
    have q0 : decide ((k : Int) < 9) = true := by simp; omega
    have hif := (iF k)
    by_cases hlt : k < 5
    · have Hr := hide (rF k hlt)
      go_wp2_with fail
      go_at_call 9
      refine (sFork HS hif.1 (by have := hif.2; omega) 2 false (x := (k : Int) + 3) (y := 0) Hr.out).mono ?_
      rintro e w4 ⟨rfl, H4⟩
      clear HS hif Hr
      go_wp2_with fail
      go_roundw
      case rel => exact ⟨k + 1, by go_num, by omega, H4⟩
      case measure => simp [intOf]; omega
    · obtain rfl : k = 5 := by omega
      go_wp2_with fail
      go_at_call 9
      refine (sFork HS hif.1 (by have := hif.2; omega) 2 false (x := 0) (y := 13) (by kernel_rfl)).mono ?_
      rintro e w4 ⟨rfl, H4⟩
      have H5 := hide (show Solo w w4 b (Fk 5) from (show (forkRes (Fk 5) 2 false).1 = Fk 5 from by kernel_rfl) ▸ H4.out)
      clear HS hif H4
      go_wp2_with fail
      go_at_call 12
      refine (sExit H5 3 7 (x := 0) (by kernel_rfl)).mono ?_
      rintro e w5 ⟨rfl, H6⟩
      go_wp2_with fail
      go_at_call 15
      refine (sWait H6 iE 2 0 (x := 3) (y := 7) (z := 0) (by kernel_rfl)).mono ?_
      rintro e w6 ⟨rfl, H7⟩
      go_wp2_with fail
      go_at_call 9
      refine (sFork H7 iW (by have h : (waitRes (exitRes (Fk 5) 3 7).1 2 0).1.last = 7 := (by kernel_rfl); omega) 2 false (x := 8) (y := 0) (by kernel_rfl)).mono ?_
      rintro e w7 ⟨rfl, H8⟩
      clear H5 H6 H7
      go_wp2_with fail
      go_at_call 13
      refine (sCount H8 5 (wfi_small (by omega) (by omega))).mono ?_
      rw [show (forkRes (waitRes (exitRes (Fk 5) 3 7).1 2 0).1 2 false).1.f 5 = 6 from by kernel_rfl]
      rintro e w8 ⟨rfl, rfl⟩
      go_wp2
      go_ret
      exact ⟨rfl, H8.out.grown⟩

end Go.Proofs.Ytljlbdbgocohlaa
