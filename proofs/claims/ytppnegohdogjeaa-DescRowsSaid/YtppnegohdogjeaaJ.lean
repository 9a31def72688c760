/- The walk of DescRows: whatever the row and the numbers, it answers true. -/
import Derived.Test.YtppnegohdogjeaaI
namespace Go.Proofs.Ytppnegohdogjeaa
open Go.RowKit

/-- A slice of one's own, whose numbers do not matter. -/
def Scr (w : World) (B : Nat) (v : Value) (n : Nat) : Prop := ∃ ys : List Int, ys.length = n ∧ Own w 3 1 v n (icells ys) 0 ∧ ∀ b, v.ownBlock = some b → B ≤ b
theorem Scr.of_made {w w' : World} {v : Value} {xs : List Int} {B : Nat} (h : Made w w' v xs) (hB : B ≤ w.heap.size) : Scr w' B v xs.length := ⟨xs, rfl, h.own, fun b hb => Nat.le_trans hB (h.new b hb)⟩
theorem Scr.form {w : World} {B n : Nat} {v : Value} (h : Scr w B v n) : ∃ a cap, v = .slice a n cap ∧ n ≤ cap ∧ cap ≤ 9223372036854775807 := by
  obtain ⟨ys, _, ho, _⟩ := h
  obtain ⟨a, cap, e, h1, h2⟩ := ho.form
  exact ⟨a, cap, e, h1, h2⟩
theorem Scr.gr {w w' : World} {B n : Nat} {v : Value} (h : Scr w B v n) (hg : w.grownBy w' none) : Scr w' B v n := by
  obtain ⟨ys, e, ho, hb⟩ := h
  exact ⟨ys, e, ho.keep fun b hb => hg.block b (ho.lt hb) (by simp), hb⟩
theorem Scr.set {w : World} {B n : Nat} {a : Option Addr} {cap : Nat} (h : Scr w B (.slice a n cap) n) (k : Nat) (hk : k < n) (x : Int) :
    ∃ g off u, a = some ⟨g, off, none⟩ ∧ B ≤ g ∧ w.cell? ⟨g, off + k, none⟩ = some (.int .i64 u) ∧ w.frozen? ⟨g, off + k, none⟩ = false ∧ Scr (w.setCell ⟨g, off + k, none⟩ (.int .i64 x)) B (.slice a n cap) n := by
  obtain ⟨ys, rfl, ho, hb⟩ := h
  obtain ⟨g, off, cap', e, h1, h2, hlt, hc⟩ := ho.some_ (by omega)
  injection e with e1 _ e2
  subst e1 e2
  refine ⟨g, off, ys[k], rfl, hb g rfl, (hc k (by omega)).trans (by simp [icells, hk]), ho.frozen0 k, ys.set k x, by simp, ?_, hb⟩
  rw [← icells_set]
  exact ho.set k (by omega) _

structure EnvD (w0 : World) (B : Nat) (wr : World) (own row : Value) (xs : List Int) : Prop where
  below : Below w0.heap.size w0 wr
  hB : w0.heap.size ≤ B
  o : Rd wr B own xs
  r : Rd wr B row xs
section
variable {w0 wr w' : World} {B : Nat} {own row : Value} {xs : List Int}
theorem EnvD.gr (h : EnvD w0 B wr own row xs) (hg : wr.grownBy w' none) : EnvD w0 B w' own row xs := ⟨below_none h.below h.below.size hg, h.hB, h.o.gr hg, h.r.gr hg⟩
theorem EnvD.set (h : EnvD w0 B wr own row xs) {p : Addr} (hp : B ≤ p.block) (u : Value) : EnvD w0 B (wr.setCell p u) own row xs := by
  have hb : Below B wr (wr.setCell p u) := (Below.refl B wr).setCell hp u
  exact ⟨h.below.setCell (Nat.le_trans h.hB hp) u, h.hB, h.o.below hb, h.r.below hb⟩
theorem EnvD.size (h : EnvD w0 B wr own row xs) : B ≤ wr.heap.size := h.o.1
end

theorem putRes_len (xs : List Int) (n f : Int) : (putRes xs n f).1.length ≤ xs.length := by
  unfold putRes; split <;> simp
theorem closeRes_len (xs : List Int) (f : Int) : (closeRes xs f).1.length ≤ xs.length := by
  unfold closeRes; split <;> simp
theorem toRes_len (xs : List Int) (f t : Int) : (toRes xs f t).1.length ≤ xs.length := by
  unfold toRes; split
  · simp
  · split <;> simp

/-- Two slices of one's own, of one text. -/
structure Two (w0 : World) (B : Nat) (wr : World) (own row : Value) (xs : List Int) (a b : Value) (ys : List Int) : Prop where
  env : EnvD w0 B wr own row xs
  sa : Scr wr B a ys.length
  ra : Rd wr wr.heap.size a ys
  rb : Rd wr wr.heap.size b ys
theorem Two.mk_ {w0 w1 w2 w3 : World} {B : Nat} {own row : Value} {xs : List Int} {a b : Value} {ys : List Int} (he : EnvD w0 B w1 own row xs) (ha : Made w1 w2 a ys) (hb : Made w2 w3 b ys) : Two w0 B w3 own row xs a b ys :=
  ⟨(he.gr ha.grown).gr hb.grown, (Scr.of_made ha he.size).gr hb.grown, by
    have h := ha.rd.gr hb.grown
    exact ⟨Nat.le_refl _, by
      obtain ⟨_, a', cap, e, h1, h2, h3⟩ := h
      exact ⟨a', cap, e, h1, h2, fun i hi => by
        obtain ⟨b', off, e1, e2, e3⟩ := h3 i hi
        exact ⟨b', off, e1, Nat.lt_of_lt_of_le e2 hb.grown.size, e3⟩⟩⟩, hb.rd⟩

set_option maxRecDepth 100000 in
set_option maxHeartbeats 4000000 in
theorem rows_any (v : Value) (xs : List Int) (hxs : xs.length ≤ 9223372036854775807) (n fd t_ : Int) (ht : t_ ≤ 9223372036854775807) (w : World) (hr : Rd w w.heap.size v xs) :
    Calls Try.prog 3 #[v, .int .i64 n, .int .i64 fd, .int .i64 t_] w fun e w' => e = .returned (.bool true) ∧ Below w.heap.size w w' := by
  have Hr := hide hr
  clear hr
  go_enter Try.func3, Try.ntmps3
  go_wp2_with fail
  go_at_call 8
  refine (shown_any w).mono ?_
  rintro e w1 ⟨rfl, hg⟩
  have G1 := hide hg
  have R1 := hide (Hr.out.gr hg)
  clear hg
  go_wp2_with fail
  go_at_call 9
  refine (plain_any v xs _ w1 R1.out).mono ?_
  rintro e w2 ⟨rfl, ⟨rfl, h20⟩ | rfl⟩
  case inr =>
    go_wp2
    go_ret
    exact ⟨rfl, below_of_none G1.out⟩
  have hx : xs.length ≤ 4096 := by omega
  have hsrc := hide ((R1.out.gr (only_alloc (only_refl w2 none) (.cells #[] 3))).src)
  clear h20
  go_wp2_with (at_builtin; refine wpList_appAt 3 (.int .i64 0) 1 8 (by kernel_rfl) info3 rfl (.slice (some ⟨w2.heap.size, 0, none⟩) 0 0) 0 [] 0 v xs.length (icells xs) rfl rfl (Own.made w2 #[] 3 1 0 0 rfl (by decide)) (by omega) hsrc.out (by unfold maxLen; omega) (by omega) ?_)
  intro own w3 ho hc hn _
  have hm : Made w2 w3 own xs := by
    refine ⟨by simpa using ho, fun b hb => ?_, ?_⟩
    · rcases hn b hb with h | h
      · simp [Value.ownBlock] at h; omega
      · rw [World.size_alloc] at h; omega
    · exact (((Chg.refl nobody w2).alloc (.cells #[] 3)).trans hc (fun i hi e => by simp [Value.ownBlock] at e; omega)).grown (fun _ _ e => e)
  have E0 := hide (show EnvD w w3.heap.size w3 own v xs from ⟨below_of_none (only_trans G1.out hm.grown), (only_trans G1.out hm.grown).size, hm.rd, by
    obtain ⟨_, a', cap, e, h1, h2, h3⟩ := R1.out.gr hm.grown
    exact ⟨Nat.le_refl _, a', cap, e, h1, h2, fun i hi => by
        obtain ⟨b', off, e1, e2, e3⟩ := h3 i hi
        exact ⟨b', off, e1, Nat.lt_of_lt_of_le e2 (only_trans G1.out hm.grown).size, e3⟩⟩⟩)
  generalize w3.heap.size = B at E0
  clear hm ho hc hn hsrc R1 G1 Hr
  obtain ⟨r1, hr1⟩ : ∃ r, r = putRes xs n t_ := ⟨_, rfl⟩
  have hl1 : r1.1.length ≤ 4096 := by rw [hr1]; exact Nat.le_trans (putRes_len xs n t_) hx
  go_wp2_with fail
  go_at_call 10
  refine (put_any own xs n t_ ht B _ E0.out.o hx).mono ?_
  rw [← hr1]
  rintro e wa1 ⟨a1, rfl, ha⟩
  go_wp2_with fail
  go_at_call 11
  refine (rput_any v xs n t_ ht B wa1 (E0.out.gr ha.grown).r hx).mono ?_
  rw [← hr1]
  rintro e wb1 ⟨b1, rfl, hb⟩
  have T1 := hide (Two.mk_ E0.out ha hb)
  clear ha hb E0 hr1
  obtain ⟨y1, x1, e1⟩ := r1
  simp only at hl1
  go_wp2_with fail
  go_at_call 12
  refine (same_eq a1 b1 y1 _ _ wb1 T1.out.ra T1.out.rb hl1).mono ?_
  rintro e wc1 ⟨rfl, hg⟩
  have E1 := hide (T1.out.env.gr hg)
  have S1 := hide (T1.out.sa.gr hg)
  obtain ⟨aa1, ac1, rfl, hc1, hd1⟩ := T1.out.sa.form
  obtain ⟨l1, hm1⟩ : ∃ l, l = y1.length := ⟨_, rfl⟩
  rw [← hm1] at S1 hl1 hc1
  simp only [← hm1]
  clear hg T1 hm1
  go_wp2_with fail
  go_loopw [19] (fun u wr => ∃ k : Nat, u = .int .i64 k ∧ k ≤ l1 ∧ EnvD w B wr own v xs ∧ Scr wr B (.slice aa1 l1 ac1) l1) (fun u _ => l1 - (intOf u).toNat)
  case atStart => exact ⟨0, rfl, by omega, E1.out, S1.out⟩
  case round =>
    obtain ⟨k, rfl, hk, hE, hS⟩ := hrel
    clear E1 S1
    by_cases hlt : k < l1
    · obtain ⟨g, off, u, rfl, hg, c0, z0, hS'⟩ := hS.set k hlt 99
      have E' := hide (hE.set (p := ⟨g, off + k, none⟩) hg (.int .i64 99))
      have S' := hide hS'
      clear hE hS hS' hg
      go_wp2
      go_roundw
      case rel => exact ⟨k + 1, by go_num, by omega, E'.out, S'.out⟩
      case measure => simp [intOf]; omega
    · have E1 := hide hE
      clear hE hS
      obtain ⟨r2, hr2⟩ : ∃ r, r = closeRes xs fd := ⟨_, rfl⟩
      have hl2 : r2.1.length ≤ 4096 := by rw [hr2]; exact Nat.le_trans (closeRes_len xs fd) hx
      go_wp2_with fail
      go_at_call 13
      refine (close_any own xs fd B _ E1.out.o hx).mono ?_
      rw [← hr2]
      rintro e wa2 ⟨a2, rfl, ha⟩
      go_wp2_with fail
      go_at_call 14
      refine (rclose_any v xs fd B wa2 (E1.out.gr ha.grown).r hx).mono ?_
      rw [← hr2]
      rintro e wb2 ⟨b2, rfl, hb⟩
      have T2 := hide (Two.mk_ E1.out ha hb)
      clear ha hb E1 hr2
      obtain ⟨y2, x2, e2⟩ := r2
      simp only at hl2
      go_wp2_with fail
      go_at_call 12
      refine (same_eq a2 b2 y2 _ _ wb2 T2.out.ra T2.out.rb hl2).mono ?_
      rintro e wc2 ⟨rfl, hg⟩
      have E2 := hide (T2.out.env.gr hg)
      have S2 := hide (T2.out.sa.gr hg)
      obtain ⟨aa2, ac2, rfl, hc2, hd2⟩ := T2.out.sa.form
      obtain ⟨l2, hm2⟩ : ∃ l, l = y2.length := ⟨_, rfl⟩
      rw [← hm2] at S2 hl2 hc2
      simp only [← hm2]
      clear hg T2 hm2
      go_wp2_with fail
      go_loopw [27] (fun u wr => ∃ k : Nat, u = .int .i64 k ∧ k ≤ l2 ∧ EnvD w B wr own v xs ∧ Scr wr B (.slice aa2 l2 ac2) l2) (fun u _ => l2 - (intOf u).toNat)
      case atStart => exact ⟨0, rfl, by omega, E2.out, S2.out⟩
      case round =>
        obtain ⟨k, rfl, hk, hE, hS⟩ := hrel
        clear E2 S2
        by_cases hlt : k < l2
        · obtain ⟨g, off, u, rfl, hg, c0, z0, hS'⟩ := hS.set k hlt 99
          have E' := hide (hE.set (p := ⟨g, off + k, none⟩) hg (.int .i64 99))
          have S' := hide hS'
          clear hE hS hS' hg
          go_wp2
          go_roundw
          case rel => exact ⟨k + 1, by go_num, by omega, E'.out, S'.out⟩
          case measure => simp [intOf]; omega
        · have E2 := hide hE
          clear hE hS
          obtain ⟨r3, hr3⟩ : ∃ r, r = toRes xs fd t_ := ⟨_, rfl⟩
          have hl3 : r3.1.length ≤ 4096 := by rw [hr3]; exact Nat.le_trans (toRes_len xs fd t_) hx
          go_wp2_with fail
          go_at_call 15
          refine (to_any own xs fd t_ B _ E2.out.o hx).mono ?_
          rw [← hr3]
          rintro e wa3 ⟨a3, rfl, ha⟩
          go_wp2_with fail
          go_at_call 16
          refine (rto_any v xs fd t_ B wa3 (E2.out.gr ha.grown).r hx).mono ?_
          rw [← hr3]
          rintro e wb3 ⟨b3, rfl, hb⟩
          have T3 := hide (Two.mk_ E2.out ha hb)
          clear ha hb E2 hr3
          obtain ⟨y3, x3, e3⟩ := r3
          simp only at hl3
          go_wp2_with fail
          go_at_call 12
          refine (same_eq a3 b3 y3 _ _ wb3 T3.out.ra T3.out.rb hl3).mono ?_
          rintro e wc3 ⟨rfl, hg⟩
          have E3 := hide (T3.out.env.gr hg)
          have S3 := hide (T3.out.sa.gr hg)
          obtain ⟨aa3, ac3, rfl, hc3, hd3⟩ := T3.out.sa.form
          obtain ⟨l3, hm3⟩ : ∃ l, l = y3.length := ⟨_, rfl⟩
          rw [← hm3] at S3 hl3 hc3
          simp only [← hm3]
          clear hg T3 hm3
          go_wp2_with fail
          go_loopw [35] (fun u wr => ∃ k : Nat, u = .int .i64 k ∧ k ≤ l3 ∧ EnvD w B wr own v xs ∧ Scr wr B (.slice aa3 l3 ac3) l3) (fun u _ => l3 - (intOf u).toNat)
          case atStart => exact ⟨0, rfl, by omega, E3.out, S3.out⟩
          case round =>
            obtain ⟨k, rfl, hk, hE, hS⟩ := hrel
            clear E3 S3
            by_cases hlt : k < l3
            · obtain ⟨g, off, u, rfl, hg, c0, z0, hS'⟩ := hS.set k hlt 99
              have E' := hide (hE.set (p := ⟨g, off + k, none⟩) hg (.int .i64 99))
              have S' := hide hS'
              clear hE hS hS' hg
              go_wp2
              go_roundw
              case rel => exact ⟨k + 1, by go_num, by omega, E'.out, S'.out⟩
              case measure => simp [intOf]; omega
            · have E3 := hide hE
              clear hE hS
              obtain ⟨r4, hr4⟩ : ∃ r, r = atRes xs fd := ⟨_, rfl⟩
              go_wp2_with fail
              go_at_call 17
              refine (at_any own xs fd B _ E3.out.o hx).mono ?_
              rw [← hr4]
              rintro e w5 ⟨rfl, rfl⟩
              go_wp2_with fail
              go_at_call 18
              refine (rat_any v xs fd B _ E3.out.r hx).mono ?_
              rw [← hr4]
              rintro e w6 ⟨rfl, rfl⟩
              clear hr4
              obtain ⟨x4, e4⟩ := r4
              go_wp2_with fail
              go_at_call 12
              refine (same_eq own v xs _ _ _ E3.out.o E3.out.r hx).mono ?_
              rintro e w7 ⟨rfl, hg⟩
              have E4 := hide (E3.out.gr hg)
              clear hg E3
              go_wp2
              go_ret
              exact ⟨rfl, E4.out.below⟩

end Go.Proofs.Ytppnegohdogjeaa
