/- The document's well: its first ways. -/
import Derived.Test.YtolmpejaakpikaaQ
set_option linter.all false
namespace Go.Proofs.Ytolmpejaakpikaa
open Go.RowKit Go.Maps
set_option maxRecDepth 100000

theorem chg_setCells {S : Nat → Prop} {a : World} {g : Nat} (hg : S g) : ∀ (vs : List Value) (o : Nat) (w : World), Chg S a w → Chg S a (w.setCells g o vs)
  | [], _, _, h => h
  | v :: r, o, w, h => chg_setCells hg r (o + 1) _ (h.setCell (p := ⟨g, o, none⟩) (.inl hg) v)
theorem RAt.put {w : World} {b : Nat} {v : Value} {r : RS} (h : RAt w b v r) {g off cap : Nat} (hv : v = .slice (some ⟨g, off, none⟩) r.L.length cap) {n : Nat} (hn : n < r.L.length) (s' : Pr) :
    RAt (w.setCells g (off + n * 9) s'.cells) b v ⟨r.L.set n s', r.last⟩ ∧ w.there g (off + n * 9) 9 ∧ Chg (rOwn b v) w (w.setCells g (off + n * 9) s'.cells) := by
  have hg : v.ownBlock = some g := by rw [hv]; rfl
  obtain ⟨h1, h2⟩ := h.v_ne hg
  obtain ⟨p1, p2⟩ := h.prs.put hv hn s'
  have hc : Chg (one_ g) w (w.setCells g (off + n * 9) s'.cells) := chg_setCells (S := one_ g) rfl _ _ _ (Chg.refl _ w)
  exact ⟨⟨h.blk.chg hc (fun e => h1 e.symm), p1, by simpa using h.pos, by simpa using h.len⟩, p2, hc.mono (fun k _ hk => .inr (by rw [hg]; exact congrArg some hk.symm))⟩
/-- What is known behind the first steps: the event laid, the process laid. -/
structure RA (w W : World) (b eb pk : Nat) (v : Value) (r : RS) (e : Ev) (s : Pr) : Prop where
  tab : RAt W b v r
  ev : Blk W eb 40 e.cells
  p : Blk W pk 52 s.cells.toArray
  gr : w.grownBy W none
  n1 : eb ≠ b
  n2 : pk ≠ b
  n3 : pk ≠ eb
  n4 : ∀ k, v.ownBlock = some k → k ≠ eb ∧ k ≠ pk
  o1 : w.heap.size ≤ eb
  o2 : w.heap.size ≤ pk
theorem RA.start {w w0 : World} {b : Nat} {v : Value} {r : RS} {e : Ev} (n : Nat) (s : Pr) (h : RAt w b v r) (hB : Blk w0 w.heap.size 40 e.cells) (hT : RAt w0 b v r) (hG : w.grownBy w0 none) (hsz : w0.heap.size = w.heap.size + 1) :
    RA w ((w0.drewN n).alloc (.cells s.cells.toArray 52)) b w.heap.size w0.heap.size v r e s := by
  have hc : Chg nobody w0 ((w0.drewN n).alloc (.cells s.cells.toArray 52)) := ((Chg.refl nobody w0).drewN n).alloc _
  have hbl := h.blk.lt
  exact ⟨hT.chg hc (fun _ _ h => h), hB.chg hc (fun h => h), Blk.new (w0.drewN n) 52 _, only_alloc (only_drewN hG n) _, by omega, by omega, by omega, fun k hk => by have := (h.v_ne hk).2; omega, Nat.le_refl _, by omega⟩
theorem RA.step {w W W' : World} {b eb pk : Nat} {v : Value} {r : RS} {e : Ev} {s s' : Pr} (h : RA w W b eb pk v r e s) (hg : W.grownBy W' (some pk)) (hp : Blk W' pk 52 s'.cells.toArray) : RA w W' b eb pk v r e s' := by
  have hc : Chg (one_ pk) W W' := Chg.of_grown hg (fun k hk => by injection hk with hk; exact hk.symm)
  exact ⟨h.tab.chg hc (fun k hk e => by rcases hk with rfl | hk; exact h.n2 e.symm; exact (h.n4 k hk).2 e), h.ev.chg hc (fun e => h.n3 e.symm), hp, only_new h.gr h.o2 hg, h.n1, h.n2, h.n3, h.n4, h.o1, h.o2⟩
theorem RA.gr' {w W W' : World} {b eb pk : Nat} {v : Value} {r : RS} {e : Ev} {s : Pr} (h : RA w W b eb pk v r e s) (hg : W.grownBy W' none) : RA w W' b eb pk v r e s := by
  have hc : Chg nobody W W' := Chg.of_grown hg (fun k hk => by cases hk)
  exact ⟨h.tab.gr hg, h.ev.chg hc (fun h => h), h.p.chg hc (fun h => h), none_trans h.gr hg, h.n1, h.n2, h.n3, h.n4, h.o1, h.o2⟩
/-- The last store. -/
theorem RA.put {w W : World} {b eb pk : Nat} {v : Value} {r : RS} {e : Ev} {s : Pr} (h : RA w W b eb pk v r e s) {g off cap : Nat} (hv : v = .slice (some ⟨g, off, none⟩) r.L.length cap) {n : Nat} (hn : n < r.L.length) (m : Nat) :
    RTo w ((W.drewN m).setCells g (off + n * 9) s.cells) b (rOwn b v) ⟨r.L.set n s, r.last⟩ ∧ (W.drewN m).there g (off + n * 9) 9 := by
  obtain ⟨h1, h2, h3⟩ := (h.tab.gr (only_drewN (only_refl W none) m)).put hv hn s
  exact ⟨⟨v, h1, fun k hk => .inl hk, ((Chg.of_grown h.gr (fun _ h => by cases h) : Chg (rOwn b v) w W).drewN m).trans h3 (fun _ _ h => h)⟩, h2⟩

set_option maxHeartbeats 2000000 in
theorem rwell_none (b : Nat) (v : Value) (r : RS) (e : Ev) (w : World) (h : RAt w b v r) (hi : idx r.L e.pid = none) :
    Calls Try.prog 10 #[.pointer (some ⟨b, 0, none⟩), .agg e.cells] w fun x w' => x = .returned (.bool false) ∧ w.grownBy w' none := by
  obtain ⟨w0, hw0⟩ : ∃ w0, w.alloc (.cells e.cells 40) = w0 := ⟨_, rfl⟩
  have hB := Blk.new w 40 e.cells
  have hG := only_alloc (only_refl w none) (.cells e.cells 40)
  have hT := h.gr hG
  have hbl := h.blk.lt
  rw [hw0] at hB hG hT
  have hat := rat_any b _ r e.pid w0 hT
  rw [hi] at hat
  have g0 : w0.cell? ⟨w.heap.size, 0, none⟩ = some (.int .i64 e.pid) := hB.cell 0
  have HG := hide hG
  have Hat := hide hat
  obtain ⟨CC, hCC⟩ : ∃ CC, e.cells = CC := ⟨_, rfl⟩
  rw [hCC] at hw0 ⊢
  clear hB hG hT h hat hi
  go_enter Try.func10, Try.ntmps10
  go_wp2_with fail
  refine Hat.out.mono ?_
  rintro x1 w1 ⟨rfl, rfl⟩
  simp only [oi]
  go_wp2_with fail
  go_quiet (fail)
  go_wp2
  go_ret
  exact ⟨rfl, only_drewN HG.out nq⟩

set_option maxHeartbeats 2000000 in
theorem rwell_cred (b : Nat) (v : Value) (r : RS) (e : Ev) (w : World) (h : RAt w b v r) (n : Nat) (c : Cr) (why : Int) (nt pv : Bool) (hi : idx r.L e.pid = some n) (hs : r.L[n]? = some (⟨e.pid, ⟨c, why, nt, pv⟩⟩ : Pr)) (hcr : ¬ (c.r = e.cr.r ∧ c.e = e.cr.e ∧ c.s = e.cr.s ∧ c.g = e.cr.g ∧ c.h = e.cr.h)) :
    Calls Try.prog 10 #[.pointer (some ⟨b, 0, none⟩), .agg e.cells] w fun x w' => x = .returned (.bool false) ∧ w.grownBy w' none := by
  have hn : n < r.L.length := (idx_some hi).1
  have hlen := h.len
  obtain ⟨g, off, cap, hv, hcap, hcm, hgl⟩ := h.prs.at h.pos
  subst hv
  obtain ⟨w0, hw0⟩ : ∃ w0, w.alloc (.cells e.cells 40) = w0 := ⟨_, rfl⟩
  have hB := Blk.new w 40 e.cells
  have hG := only_alloc (only_refl w none) (.cells e.cells 40)
  have hT := h.gr hG
  have hbl := h.blk.lt
  rw [hw0] at hB hG hT
  have hsz : w0.heap.size = w.heap.size + 1 := by rw [← hw0, World.size_alloc]
  have hat := rat_any b _ r e.pid w0 hT
  rw [hi] at hat
  obtain ⟨d0, d1, d2, d3, d4, d5, d6, d7, d8⟩ := hT.prs.c rfl hn hs
  have a0 : w0.cell? ⟨b, 0, none⟩ = some (.slice (some ⟨g, off, none⟩) r.L.length cap) := hT.blk.cell 0
  have g0 : w0.cell? ⟨w.heap.size, 0, none⟩ = some (.int .i64 e.pid) := hB.cell 0
  have g1 : w0.cell? ⟨w.heap.size, 1, none⟩ = some (.int .i64 e.cr.r) := hB.cell 1
  have g2 : w0.cell? ⟨w.heap.size, 2, none⟩ = some (.int .i64 e.cr.e) := hB.cell 2
  have g3 : w0.cell? ⟨w.heap.size, 3, none⟩ = some (.int .i64 e.cr.s) := hB.cell 3
  have g4 : w0.cell? ⟨w.heap.size, 4, none⟩ = some (.int .i64 e.cr.g) := hB.cell 4
  have g5 : w0.cell? ⟨w.heap.size, 5, none⟩ = some (.int .i64 e.cr.h) := hB.cell 5
  have i0 : decide ((n : Int) < 0) = false := by simp
  have i1 : (0 : Int) ≤ n ∧ (n : Int) < (r.L.length : Int) := by omega
  have hbl0 : b < w0.heap.size := by omega
  have hways : (¬ c.r = e.cr.r) ∨ (c.r = e.cr.r ∧ ¬ c.e = e.cr.e) ∨ (c.r = e.cr.r ∧ c.e = e.cr.e ∧ ¬ c.s = e.cr.s) ∨ (c.r = e.cr.r ∧ c.e = e.cr.e ∧ c.s = e.cr.s ∧ ¬ c.g = e.cr.g) ∨ (c.r = e.cr.r ∧ c.e = e.cr.e ∧ c.s = e.cr.s ∧ c.g = e.cr.g ∧ ¬ c.h = e.cr.h) := by
    by_cases a1 : c.r = e.cr.r
    · by_cases a2 : c.e = e.cr.e
      · by_cases a3 : c.s = e.cr.s
        · by_cases a4 : c.g = e.cr.g
          · by_cases a5 : c.h = e.cr.h
            · exact absurd ⟨a1, a2, a3, a4, a5⟩ hcr
            · simp [a1, a2, a3, a4, a5]
          · simp [a1, a2, a3, a4]
        · simp [a1, a2, a3]
      · simp [a1, a2]
    · simp [a1]
  have Hways := hide hways
  clear hways hcr
  have H := hide h
  have HB := hide hB
  have HG := hide hG
  have HT := hide hT
  have Hat := hide hat
  have Hn := hide hn
  obtain ⟨CC, hCC⟩ : ∃ CC, e.cells = CC := ⟨_, rfl⟩
  rw [hCC] at hw0 ⊢
  clear hB hG hT h hat hi hs hcap hcm hgl hn hlen
  go_enter Try.func10, Try.ntmps10
  go_wp2_with fail
  refine Hat.out.mono ?_
  rintro x1 w1 ⟨rfl, rfl⟩
  simp only [oi]
  rcases Hways.out with a1 | ⟨a1, a2⟩ | ⟨a1, a2, a3⟩ | ⟨a1, a2, a3, a4⟩ | ⟨a1, a2, a3, a4, a5⟩
  all_goals
    clear Hways
    go_wp2_with fail
    go_quiet (fail)
    go_wp2
    go_ret
    exact ⟨rfl, only_drewN HG.out nq⟩

set_option maxHeartbeats 2000000 in
theorem rwell_root (b : Nat) (v : Value) (r : RS) (e : Ev) (w : World) (h : RAt w b v r) (n : Nat) (why : Int) (nt pv : Bool) (hi : idx r.L e.pid = some n) (hs : r.L[n]? = some (⟨e.pid, ⟨e.cr, why, nt, pv⟩⟩ : Pr)) (hr : e.cr.e = 0 ∧ why = 0 ∧ pv = false) :
    Calls Try.prog 10 #[.pointer (some ⟨b, 0, none⟩), .agg e.cells] w fun x w' => x = .returned (.bool false) ∧ w.grownBy w' none := by
  have hn : n < r.L.length := (idx_some hi).1
  have hlen := h.len
  obtain ⟨g, off, cap, hv, hcap, hcm, hgl⟩ := h.prs.at h.pos
  subst hv
  obtain ⟨w0, hw0⟩ : ∃ w0, w.alloc (.cells e.cells 40) = w0 := ⟨_, rfl⟩
  have hB := Blk.new w 40 e.cells
  have hG := only_alloc (only_refl w none) (.cells e.cells 40)
  have hT := h.gr hG
  have hbl := h.blk.lt
  rw [hw0] at hB hG hT
  have hsz : w0.heap.size = w.heap.size + 1 := by rw [← hw0, World.size_alloc]
  have hat := rat_any b _ r e.pid w0 hT
  rw [hi] at hat
  obtain ⟨d0, d1, d2, d3, d4, d5, d6, d7, d8⟩ := hT.prs.c rfl hn hs
  have a0 : w0.cell? ⟨b, 0, none⟩ = some (.slice (some ⟨g, off, none⟩) r.L.length cap) := hT.blk.cell 0
  have g0 : w0.cell? ⟨w.heap.size, 0, none⟩ = some (.int .i64 e.pid) := hB.cell 0
  have g1 : w0.cell? ⟨w.heap.size, 1, none⟩ = some (.int .i64 e.cr.r) := hB.cell 1
  have g2 : w0.cell? ⟨w.heap.size, 2, none⟩ = some (.int .i64 e.cr.e) := hB.cell 2
  have g3 : w0.cell? ⟨w.heap.size, 3, none⟩ = some (.int .i64 e.cr.s) := hB.cell 3
  have g4 : w0.cell? ⟨w.heap.size, 4, none⟩ = some (.int .i64 e.cr.g) := hB.cell 4
  have g5 : w0.cell? ⟨w.heap.size, 5, none⟩ = some (.int .i64 e.cr.h) := hB.cell 5
  have i0 : decide ((n : Int) < 0) = false := by simp
  have i1 : (0 : Int) ≤ n ∧ (n : Int) < (r.L.length : Int) := by omega
  have hbl0 : b < w0.heap.size := by omega
  have Hr := hide hr
  clear hr
  have H := hide h
  have HB := hide hB
  have HG := hide hG
  have HT := hide hT
  have Hat := hide hat
  have Hn := hide hn
  obtain ⟨CC, hCC⟩ : ∃ CC, e.cells = CC := ⟨_, rfl⟩
  rw [hCC] at hw0 ⊢
  clear hB hG hT h hat hi hs hcap hcm hgl hn hlen
  go_enter Try.func10, Try.ntmps10
  go_wp2_with fail
  refine Hat.out.mono ?_
  rintro x1 w1 ⟨rfl, rfl⟩
  simp only [oi]
  obtain ⟨a6, a7, a8⟩ := Hr.out
  subst a8
  have A6 : (e.cr.e == 0) = true := by simpa using a6
  have A7 : (why == 0) = true := by simpa using a7
  clear Hr a6 a7
  go_wp2_with fail
  go_quiet (fail)
  go_upto_if 52 with (fail)
  have hA := RA.start nq (⟨e.pid, ⟨e.cr, why, nt, false⟩⟩ : Pr) H.out HB.out HT.out HG.out hsz
  rw [hsz] at hA
  simp only [Pr.cells] at hA
  clear hsz hbl hbl0 hw0 d0 d1 d2 d3 d4 d5 d6 d7 d8 g0 g1 g2 g3 g4 g5 a0
  generalize (w0.drewN nq).alloc (.cells #[.int .i64 e.pid, .int .i64 e.cr.r, .int .i64 e.cr.e, .int .i64 e.cr.s, .int .i64 e.cr.g, .int .i64 e.cr.h, .int .i64 why, .bool nt, .bool false] 52) = W, w.heap.size + 1 = pk at hA ⊢
  generalize w.heap.size = eb at hA ⊢
  have HA := hide hA
  have c0 : W.cell? ⟨pk, 0, none⟩ = some (.int .i64 e.pid) := hA.p.cell 0
  have c2 : W.cell? ⟨pk, 2, none⟩ = some (.int .i64 e.cr.e) := hA.p.cell 2
  have c6 : W.cell? ⟨pk, 6, none⟩ = some (.int .i64 why) := hA.p.cell 6
  have c7 : W.cell? ⟨pk, 7, none⟩ = some (.bool nt) := hA.p.cell 7
  have c8 : W.cell? ⟨pk, 8, none⟩ = some (.bool false) := hA.p.cell 8
  have c1 : W.cell? ⟨pk, 1, none⟩ = some (.int .i64 e.cr.r) := hA.p.cell 1
  have c3 : W.cell? ⟨pk, 3, none⟩ = some (.int .i64 e.cr.s) := hA.p.cell 3
  have c4 : W.cell? ⟨pk, 4, none⟩ = some (.int .i64 e.cr.g) := hA.p.cell 4
  have c5 : W.cell? ⟨pk, 5, none⟩ = some (.int .i64 e.cr.h) := hA.p.cell 5
  have k6 : W.cell? ⟨eb, 6, none⟩ = some (.int .i64 e.cl.op) := hA.ev.cell 6
  have k12 : W.cell? ⟨eb, 12, none⟩ = some (.int .i64 e.cl.n) := hA.ev.cell 12
  have k26 : W.cell? ⟨eb, 26, none⟩ = some (.int .i64 e.err) := hA.ev.cell 26
  have b0 : W.cell? ⟨b, 0, none⟩ = some (.slice (some ⟨g, off, none⟩) r.L.length cap) := hA.tab.blk.cell 0
  clear hA
  go_wp2
  go_ret
  exact ⟨rfl, HA.out.gr⟩

set_option maxHeartbeats 2000000 in
theorem rwell_err (b : Nat) (v : Value) (r : RS) (e : Ev) (w : World) (h : RAt w b v r) (n : Nat) (why : Int) (nt pv : Bool) (hi : idx r.L e.pid = some n) (hs : r.L[n]? = some (⟨e.pid, ⟨e.cr, why, nt, pv⟩⟩ : Pr)) (hr : e.cr.e ≠ 0 ∨ (e.cr.e = 0 ∧ why ≠ 0) ∨ (e.cr.e = 0 ∧ why = 0 ∧ pv = true)) (he : e.err ≠ 0) :
    Calls Try.prog 10 #[.pointer (some ⟨b, 0, none⟩), .agg e.cells] w fun x w' => x = .returned (.bool true) ∧ w.grownBy w' none := by
  have hn : n < r.L.length := (idx_some hi).1
  have hlen := h.len
  obtain ⟨g, off, cap, hv, hcap, hcm, hgl⟩ := h.prs.at h.pos
  subst hv
  obtain ⟨w0, hw0⟩ : ∃ w0, w.alloc (.cells e.cells 40) = w0 := ⟨_, rfl⟩
  have hB := Blk.new w 40 e.cells
  have hG := only_alloc (only_refl w none) (.cells e.cells 40)
  have hT := h.gr hG
  have hbl := h.blk.lt
  rw [hw0] at hB hG hT
  have hsz : w0.heap.size = w.heap.size + 1 := by rw [← hw0, World.size_alloc]
  have hat := rat_any b _ r e.pid w0 hT
  rw [hi] at hat
  obtain ⟨d0, d1, d2, d3, d4, d5, d6, d7, d8⟩ := hT.prs.c rfl hn hs
  have a0 : w0.cell? ⟨b, 0, none⟩ = some (.slice (some ⟨g, off, none⟩) r.L.length cap) := hT.blk.cell 0
  have g0 : w0.cell? ⟨w.heap.size, 0, none⟩ = some (.int .i64 e.pid) := hB.cell 0
  have g1 : w0.cell? ⟨w.heap.size, 1, none⟩ = some (.int .i64 e.cr.r) := hB.cell 1
  have g2 : w0.cell? ⟨w.heap.size, 2, none⟩ = some (.int .i64 e.cr.e) := hB.cell 2
  have g3 : w0.cell? ⟨w.heap.size, 3, none⟩ = some (.int .i64 e.cr.s) := hB.cell 3
  have g4 : w0.cell? ⟨w.heap.size, 4, none⟩ = some (.int .i64 e.cr.g) := hB.cell 4
  have g5 : w0.cell? ⟨w.heap.size, 5, none⟩ = some (.int .i64 e.cr.h) := hB.cell 5
  have i0 : decide ((n : Int) < 0) = false := by simp
  have i1 : (0 : Int) ≤ n ∧ (n : Int) < (r.L.length : Int) := by omega
  have hbl0 : b < w0.heap.size := by omega
  have Hr := hide hr
  clear hr
  have q0 : (e.err != 0) = true := by simpa using he
  have H := hide h
  have HB := hide hB
  have HG := hide hG
  have HT := hide hT
  have Hat := hide hat
  have Hn := hide hn
  obtain ⟨CC, hCC⟩ : ∃ CC, e.cells = CC := ⟨_, rfl⟩
  rw [hCC] at hw0 ⊢
  clear hB hG hT h hat hi hs hcap hcm hgl hn hlen
  go_enter Try.func10, Try.ntmps10
  go_wp2_with fail
  refine Hat.out.mono ?_
  rintro x1 w1 ⟨rfl, rfl⟩
  simp only [oi]
  rcases Hr.out with a6 | ⟨a6, a7⟩ | ⟨a6, a7, a8⟩
  · have A6 : (e.cr.e == 0) = false := by simpa using a6
    clear Hr a6
    go_wp2_with fail
    go_quiet (fail)
    go_upto_if 52 with (fail)
    have hA := RA.start nq (⟨e.pid, ⟨e.cr, why, nt, pv⟩⟩ : Pr) H.out HB.out HT.out HG.out hsz
    rw [hsz] at hA
    simp only [Pr.cells] at hA
    clear hsz hbl hbl0 hw0 d0 d1 d2 d3 d4 d5 d6 d7 d8 g0 g1 g2 g3 g4 g5 a0
    generalize (w0.drewN nq).alloc (.cells #[.int .i64 e.pid, .int .i64 e.cr.r, .int .i64 e.cr.e, .int .i64 e.cr.s, .int .i64 e.cr.g, .int .i64 e.cr.h, .int .i64 why, .bool nt, .bool pv] 52) = W, w.heap.size + 1 = pk at hA ⊢
    generalize w.heap.size = eb at hA ⊢
    have HA := hide hA
    have c0 : W.cell? ⟨pk, 0, none⟩ = some (.int .i64 e.pid) := hA.p.cell 0
    have c2 : W.cell? ⟨pk, 2, none⟩ = some (.int .i64 e.cr.e) := hA.p.cell 2
    have c6 : W.cell? ⟨pk, 6, none⟩ = some (.int .i64 why) := hA.p.cell 6
    have c7 : W.cell? ⟨pk, 7, none⟩ = some (.bool nt) := hA.p.cell 7
    have c8 : W.cell? ⟨pk, 8, none⟩ = some (.bool pv) := hA.p.cell 8
    have c1 : W.cell? ⟨pk, 1, none⟩ = some (.int .i64 e.cr.r) := hA.p.cell 1
    have c3 : W.cell? ⟨pk, 3, none⟩ = some (.int .i64 e.cr.s) := hA.p.cell 3
    have c4 : W.cell? ⟨pk, 4, none⟩ = some (.int .i64 e.cr.g) := hA.p.cell 4
    have c5 : W.cell? ⟨pk, 5, none⟩ = some (.int .i64 e.cr.h) := hA.p.cell 5
    have k6 : W.cell? ⟨eb, 6, none⟩ = some (.int .i64 e.cl.op) := hA.ev.cell 6
    have k12 : W.cell? ⟨eb, 12, none⟩ = some (.int .i64 e.cl.n) := hA.ev.cell 12
    have k26 : W.cell? ⟨eb, 26, none⟩ = some (.int .i64 e.err) := hA.ev.cell 26
    have b0 : W.cell? ⟨b, 0, none⟩ = some (.slice (some ⟨g, off, none⟩) r.L.length cap) := hA.tab.blk.cell 0
    clear hA
    go_wp2
    go_ret
    exact ⟨rfl, HA.out.gr⟩
  · have A6 : (e.cr.e == 0) = true := by simpa using a6
    have A7 : (why == 0) = false := by simpa using a7
    clear Hr a6 a7
    go_wp2_with fail
    go_quiet (fail)
    go_upto_if 52 with (fail)
    have hA := RA.start nq (⟨e.pid, ⟨e.cr, why, nt, pv⟩⟩ : Pr) H.out HB.out HT.out HG.out hsz
    rw [hsz] at hA
    simp only [Pr.cells] at hA
    clear hsz hbl hbl0 hw0 d0 d1 d2 d3 d4 d5 d6 d7 d8 g0 g1 g2 g3 g4 g5 a0
    generalize (w0.drewN nq).alloc (.cells #[.int .i64 e.pid, .int .i64 e.cr.r, .int .i64 e.cr.e, .int .i64 e.cr.s, .int .i64 e.cr.g, .int .i64 e.cr.h, .int .i64 why, .bool nt, .bool pv] 52) = W, w.heap.size + 1 = pk at hA ⊢
    generalize w.heap.size = eb at hA ⊢
    have HA := hide hA
    have c0 : W.cell? ⟨pk, 0, none⟩ = some (.int .i64 e.pid) := hA.p.cell 0
    have c2 : W.cell? ⟨pk, 2, none⟩ = some (.int .i64 e.cr.e) := hA.p.cell 2
    have c6 : W.cell? ⟨pk, 6, none⟩ = some (.int .i64 why) := hA.p.cell 6
    have c7 : W.cell? ⟨pk, 7, none⟩ = some (.bool nt) := hA.p.cell 7
    have c8 : W.cell? ⟨pk, 8, none⟩ = some (.bool pv) := hA.p.cell 8
    have c1 : W.cell? ⟨pk, 1, none⟩ = some (.int .i64 e.cr.r) := hA.p.cell 1
    have c3 : W.cell? ⟨pk, 3, none⟩ = some (.int .i64 e.cr.s) := hA.p.cell 3
    have c4 : W.cell? ⟨pk, 4, none⟩ = some (.int .i64 e.cr.g) := hA.p.cell 4
    have c5 : W.cell? ⟨pk, 5, none⟩ = some (.int .i64 e.cr.h) := hA.p.cell 5
    have k6 : W.cell? ⟨eb, 6, none⟩ = some (.int .i64 e.cl.op) := hA.ev.cell 6
    have k12 : W.cell? ⟨eb, 12, none⟩ = some (.int .i64 e.cl.n) := hA.ev.cell 12
    have k26 : W.cell? ⟨eb, 26, none⟩ = some (.int .i64 e.err) := hA.ev.cell 26
    have b0 : W.cell? ⟨b, 0, none⟩ = some (.slice (some ⟨g, off, none⟩) r.L.length cap) := hA.tab.blk.cell 0
    clear hA
    go_wp2
    go_ret
    exact ⟨rfl, HA.out.gr⟩
  · subst a8
    have A6 : (e.cr.e == 0) = true := by simpa using a6
    have A7 : (why == 0) = true := by simpa using a7
    clear Hr a6 a7
    go_wp2_with fail
    go_quiet (fail)
    go_upto_if 52 with (fail)
    have hA := RA.start nq (⟨e.pid, ⟨e.cr, why, nt, true⟩⟩ : Pr) H.out HB.out HT.out HG.out hsz
    rw [hsz] at hA
    simp only [Pr.cells] at hA
    clear hsz hbl hbl0 hw0 d0 d1 d2 d3 d4 d5 d6 d7 d8 g0 g1 g2 g3 g4 g5 a0
    generalize (w0.drewN nq).alloc (.cells #[.int .i64 e.pid, .int .i64 e.cr.r, .int .i64 e.cr.e, .int .i64 e.cr.s, .int .i64 e.cr.g, .int .i64 e.cr.h, .int .i64 why, .bool nt, .bool true] 52) = W, w.heap.size + 1 = pk at hA ⊢
    generalize w.heap.size = eb at hA ⊢
    have HA := hide hA
    have c0 : W.cell? ⟨pk, 0, none⟩ = some (.int .i64 e.pid) := hA.p.cell 0
    have c2 : W.cell? ⟨pk, 2, none⟩ = some (.int .i64 e.cr.e) := hA.p.cell 2
    have c6 : W.cell? ⟨pk, 6, none⟩ = some (.int .i64 why) := hA.p.cell 6
    have c7 : W.cell? ⟨pk, 7, none⟩ = some (.bool nt) := hA.p.cell 7
    have c8 : W.cell? ⟨pk, 8, none⟩ = some (.bool true) := hA.p.cell 8
    have c1 : W.cell? ⟨pk, 1, none⟩ = some (.int .i64 e.cr.r) := hA.p.cell 1
    have c3 : W.cell? ⟨pk, 3, none⟩ = some (.int .i64 e.cr.s) := hA.p.cell 3
    have c4 : W.cell? ⟨pk, 4, none⟩ = some (.int .i64 e.cr.g) := hA.p.cell 4
    have c5 : W.cell? ⟨pk, 5, none⟩ = some (.int .i64 e.cr.h) := hA.p.cell 5
    have k6 : W.cell? ⟨eb, 6, none⟩ = some (.int .i64 e.cl.op) := hA.ev.cell 6
    have k12 : W.cell? ⟨eb, 12, none⟩ = some (.int .i64 e.cl.n) := hA.ev.cell 12
    have k26 : W.cell? ⟨eb, 26, none⟩ = some (.int .i64 e.err) := hA.ev.cell 26
    have b0 : W.cell? ⟨b, 0, none⟩ = some (.slice (some ⟨g, off, none⟩) r.L.length cap) := hA.tab.blk.cell 0
    clear hA
    go_wp2
    go_ret
    exact ⟨rfl, HA.out.gr⟩

set_option maxHeartbeats 2000000 in
theorem rwell_other (b : Nat) (v : Value) (r : RS) (e : Ev) (w : World) (h : RAt w b v r) (n : Nat) (why : Int) (nt pv : Bool) (hi : idx r.L e.pid = some n) (hs : r.L[n]? = some (⟨e.pid, ⟨e.cr, why, nt, pv⟩⟩ : Pr)) (hr : e.cr.e ≠ 0 ∨ (e.cr.e = 0 ∧ why ≠ 0) ∨ (e.cr.e = 0 ∧ why = 0 ∧ pv = true)) (he : e.err = 0) (hop : e.cl.op ≠ 18 ∧ e.cl.op ≠ 19 ∧ e.cl.op ≠ 20 ∧ e.cl.op ≠ 26 ∧ e.cl.op ≠ 23 ∧ e.cl.op ≠ 25) :
    Calls Try.prog 10 #[.pointer (some ⟨b, 0, none⟩), .agg e.cells] w fun x w' => x = .returned (.bool true) ∧ RTo w w' b (rOwn b v) ⟨r.L.set n ⟨e.pid, ⟨e.cr, why, nt, pv⟩⟩, r.last⟩ := by
  have hn : n < r.L.length := (idx_some hi).1
  have hlen := h.len
  obtain ⟨g, off, cap, hv, hcap, hcm, hgl⟩ := h.prs.at h.pos
  subst hv
  obtain ⟨w0, hw0⟩ : ∃ w0, w.alloc (.cells e.cells 40) = w0 := ⟨_, rfl⟩
  have hB := Blk.new w 40 e.cells
  have hG := only_alloc (only_refl w none) (.cells e.cells 40)
  have hT := h.gr hG
  have hbl := h.blk.lt
  rw [hw0] at hB hG hT
  have hsz : w0.heap.size = w.heap.size + 1 := by rw [← hw0, World.size_alloc]
  have hat := rat_any b _ r e.pid w0 hT
  rw [hi] at hat
  obtain ⟨d0, d1, d2, d3, d4, d5, d6, d7, d8⟩ := hT.prs.c rfl hn hs
  have a0 : w0.cell? ⟨b, 0, none⟩ = some (.slice (some ⟨g, off, none⟩) r.L.length cap) := hT.blk.cell 0
  have g0 : w0.cell? ⟨w.heap.size, 0, none⟩ = some (.int .i64 e.pid) := hB.cell 0
  have g1 : w0.cell? ⟨w.heap.size, 1, none⟩ = some (.int .i64 e.cr.r) := hB.cell 1
  have g2 : w0.cell? ⟨w.heap.size, 2, none⟩ = some (.int .i64 e.cr.e) := hB.cell 2
  have g3 : w0.cell? ⟨w.heap.size, 3, none⟩ = some (.int .i64 e.cr.s) := hB.cell 3
  have g4 : w0.cell? ⟨w.heap.size, 4, none⟩ = some (.int .i64 e.cr.g) := hB.cell 4
  have g5 : w0.cell? ⟨w.heap.size, 5, none⟩ = some (.int .i64 e.cr.h) := hB.cell 5
  have i0 : decide ((n : Int) < 0) = false := by simp
  have i1 : (0 : Int) ≤ n ∧ (n : Int) < (r.L.length : Int) := by omega
  have hbl0 : b < w0.heap.size := by omega
  have Hr := hide hr
  clear hr
  have q0 : (e.err != 0) = false := by simpa using he
  have q18 : (e.cl.op == 18) = false := by simp; omega
  have q19 : (e.cl.op == 19) = false := by simp; omega
  have q20 : (e.cl.op == 20) = false := by simp; omega
  have q26 : (e.cl.op == 26) = false := by simp; omega
  have q23 : (e.cl.op == 23) = false := by simp; omega
  have q25 : (e.cl.op == 25) = false := by simp; omega
  have H := hide h
  have HB := hide hB
  have HG := hide hG
  have HT := hide hT
  have Hat := hide hat
  have Hn := hide hn
  obtain ⟨CC, hCC⟩ : ∃ CC, e.cells = CC := ⟨_, rfl⟩
  rw [hCC] at hw0 ⊢
  clear hB hG hT h hat hi hs hcap hcm hgl hn hlen
  go_enter Try.func10, Try.ntmps10
  go_wp2_with fail
  refine Hat.out.mono ?_
  rintro x1 w1 ⟨rfl, rfl⟩
  simp only [oi]
  rcases Hr.out with a6 | ⟨a6, a7⟩ | ⟨a6, a7, a8⟩
  · have A6 : (e.cr.e == 0) = false := by simpa using a6
    clear Hr a6
    go_wp2_with fail
    go_quiet (fail)
    go_upto_if 52 with (fail)
    have hA := RA.start nq (⟨e.pid, ⟨e.cr, why, nt, pv⟩⟩ : Pr) H.out HB.out HT.out HG.out hsz
    rw [hsz] at hA
    simp only [Pr.cells] at hA
    clear hsz hbl hbl0 hw0 d0 d1 d2 d3 d4 d5 d6 d7 d8 g0 g1 g2 g3 g4 g5 a0
    generalize (w0.drewN nq).alloc (.cells #[.int .i64 e.pid, .int .i64 e.cr.r, .int .i64 e.cr.e, .int .i64 e.cr.s, .int .i64 e.cr.g, .int .i64 e.cr.h, .int .i64 why, .bool nt, .bool pv] 52) = W, w.heap.size + 1 = pk at hA ⊢
    generalize w.heap.size = eb at hA ⊢
    have HA := hide hA
    have c0 : W.cell? ⟨pk, 0, none⟩ = some (.int .i64 e.pid) := hA.p.cell 0
    have c2 : W.cell? ⟨pk, 2, none⟩ = some (.int .i64 e.cr.e) := hA.p.cell 2
    have c6 : W.cell? ⟨pk, 6, none⟩ = some (.int .i64 why) := hA.p.cell 6
    have c7 : W.cell? ⟨pk, 7, none⟩ = some (.bool nt) := hA.p.cell 7
    have c8 : W.cell? ⟨pk, 8, none⟩ = some (.bool pv) := hA.p.cell 8
    have c1 : W.cell? ⟨pk, 1, none⟩ = some (.int .i64 e.cr.r) := hA.p.cell 1
    have c3 : W.cell? ⟨pk, 3, none⟩ = some (.int .i64 e.cr.s) := hA.p.cell 3
    have c4 : W.cell? ⟨pk, 4, none⟩ = some (.int .i64 e.cr.g) := hA.p.cell 4
    have c5 : W.cell? ⟨pk, 5, none⟩ = some (.int .i64 e.cr.h) := hA.p.cell 5
    have k6 : W.cell? ⟨eb, 6, none⟩ = some (.int .i64 e.cl.op) := hA.ev.cell 6
    have k12 : W.cell? ⟨eb, 12, none⟩ = some (.int .i64 e.cl.n) := hA.ev.cell 12
    have k26 : W.cell? ⟨eb, 26, none⟩ = some (.int .i64 e.err) := hA.ev.cell 26
    have b0 : W.cell? ⟨b, 0, none⟩ = some (.slice (some ⟨g, off, none⟩) r.L.length cap) := hA.tab.blk.cell 0
    clear hA
    go_wp2_with fail
    have hqs : QS b pk (.slice (some ⟨g, off, none⟩) r.L.length cap) (⟨e.pid, ⟨e.cr, why, nt, pv⟩⟩ : Pr) W.drew := ⟨HA.out.tab.blk.cell 0, RowAt.of (Blk.drew HA.out.p)⟩
    clear c0 c1 c2 c3 c4 c5 c6 c7 c8
    refine wp_region_perm [0, 1, 2, 3, 4, 5, 6] [7] (by kernel_rfl) (by kernel_rfl) (QS b pk (.slice (some ⟨g, off, none⟩) r.L.length cap) (⟨e.pid, ⟨e.cr, why, nt, pv⟩⟩ : Pr)) hqs ?_
    simp only [pick, List.getElem?_cons_zero, List.getElem?_cons_succ]
    iterate 7
      refine wpTake_cons ?_ (by rfl) ?_ ?_
      rotate_left
      · (intro W9 hSW; obtain ⟨hS1, j0, j1, j2, j3, j4, j5, j6, j7, j8⟩ := hSW; go_simp; try with_reducible rfl)
      simp only [Act.put, List.setIfInBounds_toArray, List.set_cons_zero, List.set_cons_succ]
    refine wpTake_nil ?_
    refine wpForce_one ?_
    obtain ⟨hf, hth⟩ := HA.out.put rfl Hn.out 1
    have Hf := hide hf
    clear hf
    refine wpList_store_mid rfl 52 _ _ rfl g (off + n * 9) (⟨e.pid, ⟨e.cr, why, nt, pv⟩⟩ : Pr).cells.toArray (by rfl) (by rfl) hth (by rw [show (⟨e.pid, ⟨e.cr, why, nt, pv⟩⟩ : Pr).cells.toArray.size = 9 from rfl]; kernel_rfl) (all_oneCell_toArray (fun y hy => pcs_one [(⟨e.pid, ⟨e.cr, why, nt, pv⟩⟩ : Pr)] y (by simpa [pcs] using hy))) ?_
    refine wpList_nil ?_
    refine NoPanic.normal ?_
    go_wp2
    go_ret
    exact ⟨rfl, Hf.out⟩
  · have A6 : (e.cr.e == 0) = true := by simpa using a6
    have A7 : (why == 0) = false := by simpa using a7
    clear Hr a6 a7
    go_wp2_with fail
    go_quiet (fail)
    go_upto_if 52 with (fail)
    have hA := RA.start nq (⟨e.pid, ⟨e.cr, why, nt, pv⟩⟩ : Pr) H.out HB.out HT.out HG.out hsz
    rw [hsz] at hA
    simp only [Pr.cells] at hA
    clear hsz hbl hbl0 hw0 d0 d1 d2 d3 d4 d5 d6 d7 d8 g0 g1 g2 g3 g4 g5 a0
    generalize (w0.drewN nq).alloc (.cells #[.int .i64 e.pid, .int .i64 e.cr.r, .int .i64 e.cr.e, .int .i64 e.cr.s, .int .i64 e.cr.g, .int .i64 e.cr.h, .int .i64 why, .bool nt, .bool pv] 52) = W, w.heap.size + 1 = pk at hA ⊢
    generalize w.heap.size = eb at hA ⊢
    have HA := hide hA
    have c0 : W.cell? ⟨pk, 0, none⟩ = some (.int .i64 e.pid) := hA.p.cell 0
    have c2 : W.cell? ⟨pk, 2, none⟩ = some (.int .i64 e.cr.e) := hA.p.cell 2
    have c6 : W.cell? ⟨pk, 6, none⟩ = some (.int .i64 why) := hA.p.cell 6
    have c7 : W.cell? ⟨pk, 7, none⟩ = some (.bool nt) := hA.p.cell 7
    have c8 : W.cell? ⟨pk, 8, none⟩ = some (.bool pv) := hA.p.cell 8
    have c1 : W.cell? ⟨pk, 1, none⟩ = some (.int .i64 e.cr.r) := hA.p.cell 1
    have c3 : W.cell? ⟨pk, 3, none⟩ = some (.int .i64 e.cr.s) := hA.p.cell 3
    have c4 : W.cell? ⟨pk, 4, none⟩ = some (.int .i64 e.cr.g) := hA.p.cell 4
    have c5 : W.cell? ⟨pk, 5, none⟩ = some (.int .i64 e.cr.h) := hA.p.cell 5
    have k6 : W.cell? ⟨eb, 6, none⟩ = some (.int .i64 e.cl.op) := hA.ev.cell 6
    have k12 : W.cell? ⟨eb, 12, none⟩ = some (.int .i64 e.cl.n) := hA.ev.cell 12
    have k26 : W.cell? ⟨eb, 26, none⟩ = some (.int .i64 e.err) := hA.ev.cell 26
    have b0 : W.cell? ⟨b, 0, none⟩ = some (.slice (some ⟨g, off, none⟩) r.L.length cap) := hA.tab.blk.cell 0
    clear hA
    go_wp2_with fail
    have hqs : QS b pk (.slice (some ⟨g, off, none⟩) r.L.length cap) (⟨e.pid, ⟨e.cr, why, nt, pv⟩⟩ : Pr) W.drew := ⟨HA.out.tab.blk.cell 0, RowAt.of (Blk.drew HA.out.p)⟩
    clear c0 c1 c2 c3 c4 c5 c6 c7 c8
    refine wp_region_perm [0, 1, 2, 3, 4, 5, 6] [7] (by kernel_rfl) (by kernel_rfl) (QS b pk (.slice (some ⟨g, off, none⟩) r.L.length cap) (⟨e.pid, ⟨e.cr, why, nt, pv⟩⟩ : Pr)) hqs ?_
    simp only [pick, List.getElem?_cons_zero, List.getElem?_cons_succ]
    iterate 7
      refine wpTake_cons ?_ (by rfl) ?_ ?_
      rotate_left
      · (intro W9 hSW; obtain ⟨hS1, j0, j1, j2, j3, j4, j5, j6, j7, j8⟩ := hSW; go_simp; try with_reducible rfl)
      simp only [Act.put, List.setIfInBounds_toArray, List.set_cons_zero, List.set_cons_succ]
    refine wpTake_nil ?_
    refine wpForce_one ?_
    obtain ⟨hf, hth⟩ := HA.out.put rfl Hn.out 1
    have Hf := hide hf
    clear hf
    refine wpList_store_mid rfl 52 _ _ rfl g (off + n * 9) (⟨e.pid, ⟨e.cr, why, nt, pv⟩⟩ : Pr).cells.toArray (by rfl) (by rfl) hth (by rw [show (⟨e.pid, ⟨e.cr, why, nt, pv⟩⟩ : Pr).cells.toArray.size = 9 from rfl]; kernel_rfl) (all_oneCell_toArray (fun y hy => pcs_one [(⟨e.pid, ⟨e.cr, why, nt, pv⟩⟩ : Pr)] y (by simpa [pcs] using hy))) ?_
    refine wpList_nil ?_
    refine NoPanic.normal ?_
    go_wp2
    go_ret
    exact ⟨rfl, Hf.out⟩
  · subst a8
    have A6 : (e.cr.e == 0) = true := by simpa using a6
    have A7 : (why == 0) = true := by simpa using a7
    clear Hr a6 a7
    go_wp2_with fail
    go_quiet (fail)
    go_upto_if 52 with (fail)
    have hA := RA.start nq (⟨e.pid, ⟨e.cr, why, nt, true⟩⟩ : Pr) H.out HB.out HT.out HG.out hsz
    rw [hsz] at hA
    simp only [Pr.cells] at hA
    clear hsz hbl hbl0 hw0 d0 d1 d2 d3 d4 d5 d6 d7 d8 g0 g1 g2 g3 g4 g5 a0
    generalize (w0.drewN nq).alloc (.cells #[.int .i64 e.pid, .int .i64 e.cr.r, .int .i64 e.cr.e, .int .i64 e.cr.s, .int .i64 e.cr.g, .int .i64 e.cr.h, .int .i64 why, .bool nt, .bool true] 52) = W, w.heap.size + 1 = pk at hA ⊢
    generalize w.heap.size = eb at hA ⊢
    have HA := hide hA
    have c0 : W.cell? ⟨pk, 0, none⟩ = some (.int .i64 e.pid) := hA.p.cell 0
    have c2 : W.cell? ⟨pk, 2, none⟩ = some (.int .i64 e.cr.e) := hA.p.cell 2
    have c6 : W.cell? ⟨pk, 6, none⟩ = some (.int .i64 why) := hA.p.cell 6
    have c7 : W.cell? ⟨pk, 7, none⟩ = some (.bool nt) := hA.p.cell 7
    have c8 : W.cell? ⟨pk, 8, none⟩ = some (.bool true) := hA.p.cell 8
    have c1 : W.cell? ⟨pk, 1, none⟩ = some (.int .i64 e.cr.r) := hA.p.cell 1
    have c3 : W.cell? ⟨pk, 3, none⟩ = some (.int .i64 e.cr.s) := hA.p.cell 3
    have c4 : W.cell? ⟨pk, 4, none⟩ = some (.int .i64 e.cr.g) := hA.p.cell 4
    have c5 : W.cell? ⟨pk, 5, none⟩ = some (.int .i64 e.cr.h) := hA.p.cell 5
    have k6 : W.cell? ⟨eb, 6, none⟩ = some (.int .i64 e.cl.op) := hA.ev.cell 6
    have k12 : W.cell? ⟨eb, 12, none⟩ = some (.int .i64 e.cl.n) := hA.ev.cell 12
    have k26 : W.cell? ⟨eb, 26, none⟩ = some (.int .i64 e.err) := hA.ev.cell 26
    have b0 : W.cell? ⟨b, 0, none⟩ = some (.slice (some ⟨g, off, none⟩) r.L.length cap) := hA.tab.blk.cell 0
    clear hA
    go_wp2_with fail
    have hqs : QS b pk (.slice (some ⟨g, off, none⟩) r.L.length cap) (⟨e.pid, ⟨e.cr, why, nt, true⟩⟩ : Pr) W.drew := ⟨HA.out.tab.blk.cell 0, RowAt.of (Blk.drew HA.out.p)⟩
    clear c0 c1 c2 c3 c4 c5 c6 c7 c8
    refine wp_region_perm [0, 1, 2, 3, 4, 5, 6] [7] (by kernel_rfl) (by kernel_rfl) (QS b pk (.slice (some ⟨g, off, none⟩) r.L.length cap) (⟨e.pid, ⟨e.cr, why, nt, true⟩⟩ : Pr)) hqs ?_
    simp only [pick, List.getElem?_cons_zero, List.getElem?_cons_succ]
    iterate 7
      refine wpTake_cons ?_ (by rfl) ?_ ?_
      rotate_left
      · (intro W9 hSW; obtain ⟨hS1, j0, j1, j2, j3, j4, j5, j6, j7, j8⟩ := hSW; go_simp; try with_reducible rfl)
      simp only [Act.put, List.setIfInBounds_toArray, List.set_cons_zero, List.set_cons_succ]
    refine wpTake_nil ?_
    refine wpForce_one ?_
    obtain ⟨hf, hth⟩ := HA.out.put rfl Hn.out 1
    have Hf := hide hf
    clear hf
    refine wpList_store_mid rfl 52 _ _ rfl g (off + n * 9) (⟨e.pid, ⟨e.cr, why, nt, true⟩⟩ : Pr).cells.toArray (by rfl) (by rfl) hth (by rw [show (⟨e.pid, ⟨e.cr, why, nt, true⟩⟩ : Pr).cells.toArray.size = 9 from rfl]; kernel_rfl) (all_oneCell_toArray (fun y hy => pcs_one [(⟨e.pid, ⟨e.cr, why, nt, true⟩⟩ : Pr)] y (by simpa [pcs] using hy))) ?_
    refine wpList_nil ?_
    refine NoPanic.normal ?_
    go_wp2
    go_ret
    exact ⟨rfl, Hf.out⟩

end Go.Proofs.Ytolmpejaakpikaa
