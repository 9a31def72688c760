/- The document's table: the walks of at, live, known, Count, room, learn. -/
import Derived.Test.YtljlbdbgocohlaaK
namespace Go.Proofs.Ytljlbdbgocohlaa
open Go.RowKit Go.Maps

def icells (U : List Int) : List Value := U.map fun x => .int .i64 x
theorem icells_len (U : List Int) : (icells U).length = U.length := by simp [icells]
theorem icells_get (U : List Int) (n : Nat) (hn : n < U.length) : (icells U)[n]? = some (.int .i64 U[n]) := by simp [icells, hn]
theorem icells_one (U : List Int) : ∀ u ∈ icells U, u.oneCell' = true := by
  intro u hu
  obtain ⟨_, _, rfl⟩ := List.mem_map.1 hu
  rfl

structure RS where
  L : List Pr
  last : Int
  U : List Int
def RS.st (r : RS) : PS := ⟨r.L, r.last, r.U, cnt r.L, rcnt r.L⟩
structure RAt (w : World) (b : Nat) (v u : Value) (r : RS) : Prop where
  blk : Blk w b 55 #[v, .int .i64 r.last, u]
  prs : PrsIs w 50 v r.L
  us : Own w 3 1 u r.U.length (icells r.U) 0
  pos : 0 < r.L.length
  len : r.L.length ≤ 1000000
  ul : r.U.length ≤ 1000000
def rOwn (b : Nat) (v u : Value) : Nat → Prop := fun k => k = b ∨ v.ownBlock = some k ∨ u.ownBlock = some k
def RIs (w : World) (b : Nat) (S : Nat → Prop) (r : RS) : Prop := ∃ v u, RAt w b v u r ∧ S = rOwn b v u
def RTo (w w' : World) (b : Nat) (S : Nat → Prop) (r' : RS) : Prop := ∃ S', RIs w' b S' r' ∧ (∀ k, S' k → S k ∨ w.heap.size ≤ k) ∧ Chg S w w'

theorem Blk.c3 {w : World} {g : Nat} {t : TypeId} {a b c : Value} (h : Blk w g t #[a, b, c]) : w.cell? ⟨g, 0, none⟩ = some a ∧ w.cell? ⟨g, 1, none⟩ = some b ∧ w.cell? ⟨g, 2, none⟩ = some c :=
  ⟨h.cell 0, h.cell 1, h.cell 2⟩

theorem Own.typ {w : World} {e : TypeId} {size n k : Nat} {v : Value} {xs : List Value} (h : Own w e size v n xs k) {b : Nat} (hb : v.ownBlock = some b) : ∃ cur fz, w.heap[b]? = some (.cells cur e fz) := by
  rcases h.2 with ⟨rfl, _⟩ | ⟨g, off, cap, cur, fz, rfl, hg, _⟩
  · simp [Value.ownBlock] at hb
  · simp [Value.ownBlock] at hb
    subst hb
    exact ⟨_, _, hg⟩
theorem Own.ne {w : World} {e e' : TypeId} {size n k size' n' k' : Nat} {v v' : Value} {xs xs' : List Value} (h : Own w e size v n xs k) (h' : Own w e' size' v' n' xs' k') (he : e ≠ e') {b : Nat} (hb : v.ownBlock = some b) : v'.ownBlock ≠ some b := by
  intro hb'
  obtain ⟨_, _, h1⟩ := h.typ hb
  obtain ⟨_, _, h2⟩ := h'.typ hb'
  rw [h1] at h2
  injection h2 with h2
  injection h2 with _ h2 _
  exact he h2
theorem Own.neb {w : World} {e e' : TypeId} {size n k : Nat} {v : Value} {xs : List Value} {cs : Array Value} {b b' : Nat} (h : Own w e size v n xs k) (h' : Blk w b' e' cs) (he : e ≠ e') (hb : v.ownBlock = some b) : b ≠ b' := by
  rintro rfl
  obtain ⟨_, _, h1⟩ := h.typ hb
  unfold Blk at h'
  rw [h1] at h'
  injection h' with h2
  injection h2 with _ h2 _
  exact he h2

section
variable {w w' : World} {b : Nat} {v u : Value} {r r' : RS} {S T : Nat → Prop}
theorem RAt.v_ne (h : RAt w b v u r) {k : Nat} (hk : v.ownBlock = some k) : k ≠ b ∧ u.ownBlock ≠ some k ∧ k < w.heap.size :=
  ⟨Own.neb h.prs h.blk (by decide) hk, Own.ne h.prs h.us (by decide) hk, Own.lt h.prs hk⟩
theorem RAt.u_ne (h : RAt w b v u r) {k : Nat} (hk : u.ownBlock = some k) : k ≠ b ∧ v.ownBlock ≠ some k ∧ k < w.heap.size :=
  ⟨Own.neb h.us h.blk (by decide) hk, Own.ne h.us h.prs (by decide) hk, Own.lt h.us hk⟩
theorem RAt.chg (h : RAt w b v u r) (hc : Chg T w w') (hd : ∀ k, rOwn b v u k → ¬ T k) : RAt w' b v u r :=
  ⟨Blk.chg h.blk hc (hd b (.inl rfl)), h.prs.chg hc (fun k hk => hd k (.inr (.inl hk))), h.us.chg hc (fun k hk => hd k (.inr (.inr hk))), h.pos, h.len, h.ul⟩
theorem RAt.gr (h : RAt w b v u r) (hg : w.grownBy w' none) : RAt w' b v u r := h.chg (Chg.of_grown hg (fun _ h => by cases h) : Chg nobody w w') (fun _ _ h => h)
theorem RAt.lt (h : RAt w b v u r) {k : Nat} (hk : rOwn b v u k) : k < w.heap.size := by
  rcases hk with rfl | hk | hk
  · exact Blk.lt h.blk
  · exact (h.v_ne hk).2.2
  · exact (h.u_ne hk).2.2
theorem RIs.lt (h : RIs w b S r) {k : Nat} (hk : S k) : k < w.heap.size := by
  obtain ⟨v, u, h, rfl⟩ := h
  exact h.lt hk
theorem RIs.chg (h : RIs w b S r) (hc : Chg T w w') (hd : ∀ k, S k → ¬ T k) : RIs w' b S r := by
  obtain ⟨v, u, h, rfl⟩ := h
  exact ⟨v, u, h.chg hc hd, rfl⟩
theorem RIs.gr (h : RIs w b S r) (hg : w.grownBy w' none) : RIs w' b S r := h.chg (Chg.of_grown hg (fun _ h => by cases h) : Chg nobody w w') (fun _ _ h => h)
theorem RTo.gr (h : RIs w b S r) (hg : w.grownBy w' none) : RTo w w' b S r := ⟨S, h.gr hg, fun _ hk => .inl hk, (Chg.of_grown hg (fun _ h => by cases h) : Chg S w w')⟩
theorem RTo.mk {v' u' : Value} (h : RAt w b v u r) (h' : RAt w' b v' u' r') (hc : Chg (rOwn b v u) w w') (hn : ∀ k, rOwn b v' u' k → rOwn b v u k ∨ w.heap.size ≤ k) : RTo w w' b (rOwn b v u) r' :=
  ⟨_, ⟨v', u', h', rfl⟩, hn, hc⟩
theorem RAt.setPr {g off cap : Nat} (h : RAt w b v u r) (hv : v = .slice (some ⟨g, off, none⟩) r.L.length cap) {n : Nat} (hn : n < r.L.length) {s : Pr} (hs : r.L[n]? = some s) (j : Nat) (hj : j < 7) (x : Value) (s' : Pr) (he : s'.cells = s.cells.set j x) :
    RAt (w.setCell ⟨g, off + n * 7 + j, none⟩ x) b v u { r with L := r.L.set n s' } := by
  have hg : v.ownBlock = some g := by rw [hv]; rfl
  obtain ⟨h1, h2, h3⟩ := h.v_ne hg
  exact ⟨h.blk.far (fun e => h1 e.symm) _, h.prs.set hv hn hs j hj x s' he, h.us.far (p := ⟨g, off + n * 7 + j, none⟩) h2 _, by simpa using h.pos, by simpa using h.len, h.ul⟩
theorem rchg_set {g off n cap : Nat} (hv : v = .slice (some ⟨g, off, none⟩) n cap) {a : World} (hc : Chg (rOwn b v u) a w) (j : Nat) (x : Value) : Chg (rOwn b v u) a (w.setCell ⟨g, j, none⟩ x) :=
  hc.setCell (p := ⟨g, j, none⟩) (.inl (.inr (.inl (by rw [hv]; rfl)))) x
end

set_option maxHeartbeats 1000000 in
theorem rat_any (b : Nat) (v u : Value) (r : RS) (pid : Int) (w : World) (h : RAt w b v u r) :
    Calls Try.prog 33 #[.pointer (some ⟨b, 0, none⟩), .int .i64 pid] w fun e w' => e = .returned (.int .i64 (oi (idx r.L pid))) ∧ w = w' := by
  obtain ⟨g, off, cap, hv, hcap, hcm, hg⟩ := h.prs.at h.pos
  subst hv
  obtain ⟨a0, a1, a2⟩ := h.blk.c3
  have hl := h.len
  have H := hide h
  clear h hcap hcm
  go_enter Try.func33, Try.ntmps33
  go_wp2_with fail
  go_loopw [5] (fun u wr => ∃ k : Nat, u = .int .i64 k ∧ k ≤ r.L.length ∧ idxFrom r.L pid k = idx r.L pid ∧ w = wr) (fun u _ => r.L.length - (intOf u).toNat)
  case atStart => exact ⟨0, rfl, by omega, rfl, rfl⟩
  case round =>
    obtain ⟨k, rfl, hk, hff, rfl⟩ := hrel
    by_cases hlt : k < r.L.length
    · obtain ⟨s, hs⟩ : ∃ s, r.L[k]? = some s := ⟨_, List.getElem?_eq_getElem hlt⟩
      have hs' : r.L[k] = s := by rw [List.getElem?_eq_getElem hlt] at hs; injection hs
      obtain ⟨c0, c1, c2, c3, c4, c5, c6⟩ := H.out.prs.c rfl hlt hs
      have q0 : decide ((k : Int) < (r.L.length : Int)) = true := by simp; omega
      have hi : (0 : Int) ≤ k ∧ (k : Int) < (r.L.length : Int) := by omega
      by_cases h0 : s.pid = pid
      · have hr : idx r.L pid = some k := by rw [← hff, idx_here hlt (by rw [hs', h0])]
        have Hr := hide hr
        have q : (s.pid == pid) = true := by simpa using h0
        clear h0 hff hs' hr hs
        go_wp2_with fail
        go_ret
        rw [Hr.out]
        exact ⟨rfl, rfl⟩
      · have hr : idxFrom r.L pid (k + 1) = idx r.L pid := by rw [← hff, idx_next hlt (by rw [hs']; exact h0)]
        have Hr := hide hr
        have q : (s.pid == pid) = false := by simpa using h0
        clear h0 hff hs' hr hs
        go_wp2_with fail
        go_roundw
        case rel => exact ⟨k + 1, by go_num, by omega, Hr.out, (by first | rfl | trivial)⟩
        case measure => simp [intOf]; omega
    · have hr : idx r.L pid = none := by rw [← hff, idx_end (by omega)]
      have Hr := hide hr
      have q0 : decide ((k : Int) < (r.L.length : Int)) = false := by simp; omega
      clear hr hff
      go_wp2
      go_ret
      rw [Hr.out]
      exact ⟨rfl, rfl⟩

set_option maxHeartbeats 1000000 in
theorem rlive_any (b : Nat) (v u : Value) (r : RS) (pid : Int) (w : World) (h : RAt w b v u r) :
    Calls Try.prog 36 #[.pointer (some ⟨b, 0, none⟩), .int .i64 pid] w fun e w' => e = .returned (.int .i64 (oi (liveN r.L pid))) ∧ w = w' := by
  obtain ⟨g, off, cap, hv, hcap, hcm, hg⟩ := h.prs.at h.pos
  subst hv
  obtain ⟨a0, a1, a2⟩ := h.blk.c3
  have hat := rat_any b _ u r pid w h
  cases hl : liveN r.L pid with
  | none =>
    rcases live_none hl with hi | ⟨n, s, hi, hn, hs, hd⟩
    · rw [hi] at hat
      have Hat := hide hat
      clear hat hl hi h
      go_enter Try.func36, Try.ntmps36
      go_wp2_with fail
      refine Hat.out.mono ?_
      unfold oi
      rintro e w1 ⟨rfl, rfl⟩
      go_wp2
      go_ret
      exact ⟨rfl, rfl⟩
    · rw [hi] at hat
      obtain ⟨c0, c1, c2, c3, c4, c5, c6⟩ := h.prs.c rfl hn hs
      rw [hd] at c5
      have Hat := hide hat
      have q0 : decide ((n : Int) < (0 : Int)) = false := by simp
      have hi2 : (0 : Int) ≤ n ∧ (n : Int) < (r.L.length : Int) := by omega
      clear hat hl hi h hs hd
      go_enter Try.func36, Try.ntmps36
      go_wp2_with fail
      refine Hat.out.mono ?_
      unfold oi
      rintro e w1 ⟨rfl, rfl⟩
      go_wp2
      go_ret
      exact ⟨rfl, rfl⟩
  | some n =>
    obtain ⟨hi, hn, s, hs, hp, hd⟩ := liveN_some hl
    rw [hi] at hat
    obtain ⟨c0, c1, c2, c3, c4, c5, c6⟩ := h.prs.c rfl hn hs
    rw [hd] at c5
    have Hat := hide hat
    have q0 : decide ((n : Int) < (0 : Int)) = false := by simp
    have hi2 : (0 : Int) ≤ n ∧ (n : Int) < (r.L.length : Int) := by omega
    clear hat hl hi h hs hd hp
    go_enter Try.func36, Try.ntmps36
    go_wp2_with fail
    refine Hat.out.mono ?_
    unfold oi
    rintro e w1 ⟨rfl, rfl⟩
    go_wp2
    go_ret
    exact ⟨rfl, rfl⟩

theorem cnt_take {L : List Pr} {k : Nat} {s : Pr} (hs : L[k]? = some s) (x : Int) : cnt (L.take (k + 1)) x = cnt (L.take k) x + ind s x := by
  obtain ⟨hk, hs'⟩ := List.getElem?_eq_some_iff.1 hs
  rw [List.take_succ_eq_append_getElem hk, cnt_append, hs']
  simp [cnt]
theorem rcnt_take {L : List Pr} {k : Nat} {s : Pr} (hs : L[k]? = some s) : rcnt (L.take (k + 1)) = rcnt (L.take k) + rind s := by
  obtain ⟨hk, hs'⟩ := List.getElem?_eq_some_iff.1 hs
  rw [List.take_succ_eq_append_getElem hk, rcnt_append, hs']
  simp [rcnt]

set_option maxHeartbeats 1000000 in
theorem rcount_any (b : Nat) (v u : Value) (r : RS) (x : Int) (w : World) (h : RAt w b v u r) :
    Calls Try.prog 21 #[.pointer (some ⟨b, 0, none⟩), .int .i64 x] w fun e w' => e = .returned (.int .i64 (cnt r.L x)) ∧ w = w' := by
  obtain ⟨g, off, cap, hv, hcap, hcm, hg⟩ := h.prs.at h.pos
  subst hv
  obtain ⟨a0, a1, a2⟩ := h.blk.c3
  have hl := h.len
  have H := hide h
  clear h hcap hcm
  go_enter Try.func21, Try.ntmps21
  go_wp2_with fail
  go_loopw [5, 6] (fun u1 u2 wr => ∃ (k : Nat) (m : Int), u1 = .int .i64 m ∧ u2 = .int .i64 k ∧ k ≤ r.L.length ∧ 0 ≤ m ∧ m ≤ k ∧ m = cnt (r.L.take k) x ∧ w = wr) (fun _ u _ => r.L.length - (intOf u).toNat)
  case atStart => exact ⟨0, 0, rfl, rfl, by omega, by omega, by omega, rfl, rfl⟩
  case round =>
    obtain ⟨k, m, rfl, rfl, hk, hm0, hm1, hm, rfl⟩ := hrel
    have Hm := hide hm
    clear hm
    by_cases hlt : k < r.L.length
    · obtain ⟨s, hs⟩ : ∃ s, r.L[k]? = some s := ⟨_, List.getElem?_eq_getElem hlt⟩
      obtain ⟨c0, c1, c2, c3, c4, c5, c6⟩ := H.out.prs.c rfl hlt hs
      have q0 : decide ((k : Int) < (r.L.length : Int)) = true := by simp; omega
      have hi : (0 : Int) ≤ k ∧ (k : Int) < (r.L.length : Int) := by omega
      have hct := cnt_take hs x
      have hs' := hide hs
      clear hs
      by_cases h0 : s.usr = x
      · have q : (s.usr == x) = true := by simpa using h0
        cases hr : s.res with
        | true =>
          rw [hr] at c6
          have h1 : m = cnt (r.L.take (k + 1)) x := by rw [hct, ← Hm.out]; simp [ind, hr]
          have H1 := hide h1
          clear h0 hct h1 hr
          go_wp2_with fail
          go_roundw
          case rel => exact ⟨k + 1, m, rfl, by go_num, by omega, by omega, by omega, H1.out, (by first | rfl | trivial)⟩
          case measure => simp [intOf]; omega
        | false =>
          rw [hr] at c6
          have h1 : m + 1 = cnt (r.L.take (k + 1)) x := by rw [hct, ← Hm.out]; simp [ind, hr, h0]
          have H1 := hide h1
          clear h0 hct h1 hr
          go_wp2_with fail
          go_roundw
          case rel => exact ⟨k + 1, m + 1, by go_num, by go_num, by omega, by omega, by omega, H1.out, (by first | rfl | trivial)⟩
          case measure => simp [intOf]; omega
      · have q : (s.usr == x) = false := by simpa using h0
        have h1 : m = cnt (r.L.take (k + 1)) x := by rw [hct, ← Hm.out]; simp [ind, h0]
        have H1 := hide h1
        clear h0 hct h1
        go_wp2_with fail
        go_roundw
        case rel => exact ⟨k + 1, m, rfl, by go_num, by omega, by omega, by omega, H1.out, (by first | rfl | trivial)⟩
        case measure => simp [intOf]; omega
    · have q0 : decide ((k : Int) < (r.L.length : Int)) = false := by simp; omega
      have h1 : m = cnt r.L x := by rw [Hm.out, List.take_of_length_le (by omega)]
      have H1 := hide h1
      clear h1
      go_wp2
      go_ret
      rw [← H1.out]
      exact ⟨rfl, rfl⟩

def memB (U : List Int) (k : Nat) (x : Int) : Bool := (U.drop k).contains x
set_option maxHeartbeats 1000000 in
theorem rknown_any (b : Nat) (v u : Value) (r : RS) (x : Int) (w : World) (h : RAt w b v u r) :
    Calls Try.prog 39 #[.pointer (some ⟨b, 0, none⟩), .int .i64 x] w fun e w' => e = .returned (.bool (r.U.contains x)) ∧ w = w' := by
  obtain ⟨ua, ucap, hu, hucap, hucm⟩ := Own.form h.us
  subst hu
  obtain ⟨a0, a1, a2⟩ := h.blk.c3
  have hl := h.ul
  have H := hide h
  obtain ⟨cb, hcb⟩ : ∃ cb, r.U.contains x = cb := ⟨_, rfl⟩
  rw [hcb]
  have Hcb := hide hcb
  clear h hcb
  go_enter Try.func39, Try.ntmps39
  go_wp2_with fail
  go_loopw [5] (fun u wr => ∃ k : Nat, u = .int .i64 k ∧ k ≤ r.U.length ∧ memB r.U k x = cb ∧ w = wr) (fun u _ => r.U.length - (intOf u).toNat)
  case atStart => exact ⟨0, rfl, by omega, Hcb.out, rfl⟩
  case round =>
    obtain ⟨k, rfl, hk, hff, rfl⟩ := hrel
    by_cases hlt : k < r.U.length
    · obtain ⟨g, off, cap, hv, _, _, hgl, hcl⟩ := Own.some_ H.out.us (by omega)
      injection hv with hua _ hcap
      subst hua hcap
      have c0 := hcl k (by omega)
      rw [icells_get _ _ hlt] at c0
      obtain ⟨y, hy⟩ : ∃ y, r.U[k] = y := ⟨_, rfl⟩
      have hstep : memB r.U k x = (x == y || memB r.U (k + 1) x) := by
        unfold memB
        rw [List.drop_eq_getElem_cons hlt, List.contains_cons, hy]
      rw [hy] at c0
      clear hy hcl
      have q0 : decide ((k : Int) < (r.U.length : Int)) = true := by simp; omega
      have hi : (0 : Int) ≤ k ∧ (k : Int) < (r.U.length : Int) := by omega
      by_cases h0 : y = x
      · have hr : cb = true := by rw [← hff, hstep]; simp [h0]
        have Hr := hide hr
        have q : (y == x) = true := by simpa using h0
        clear h0 hff hstep hr
        go_wp2_with fail
        go_ret
        rw [Hr.out]
        exact ⟨rfl, rfl⟩
      · have hr : memB r.U (k + 1) x = cb := by rw [← hff, hstep]; simp; intro e; exact absurd e.symm h0
        have Hr := hide hr
        have q : (y == x) = false := by simpa using h0
        clear h0 hff hstep hr
        go_wp2_with fail
        go_roundw
        case rel => exact ⟨k + 1, by go_num, by omega, Hr.out, (by first | rfl | trivial)⟩
        case measure => simp [intOf]; omega
    · have hr : cb = false := by rw [← hff]; unfold memB; rw [List.drop_eq_nil_of_le (by omega)]; rfl
      have Hr := hide hr
      have q0 : decide ((k : Int) < (r.U.length : Int)) = false := by simp; omega
      clear hr hff
      go_wp2
      go_ret
      rw [Hr.out]
      exact ⟨rfl, rfl⟩

end Go.Proofs.Ytljlbdbgocohlaa
