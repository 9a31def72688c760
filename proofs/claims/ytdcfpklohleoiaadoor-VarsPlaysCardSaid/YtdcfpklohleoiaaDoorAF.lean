/- The walk of VarsPlays. -/
import Derived.Test.YtdcfpklohleoiaaDoorAE
import Derived.Test.YtdcfpklohleoiaaDoorAD
namespace Go.Proofs.YtdcfpklohleoiaaDoor
open Go.RowKit
set_option maxRecDepth 100000

/-- Two envs of the same. -/
structure Pr2 (w W : World) (b1 : Nat) (u1 : Value) (b2 : Nat) (u2 : Value) (D : List V) : Prop where
  x : EnvAt W b1 u1 D
  y : EnvAt W b2 u2 D
  g : w.grownBy W none
  lx : w.heap.size ≤ b1
  ly : w.heap.size ≤ b2
section
variable {w w3 : World} {u1 u2 v : Value} {D vs : List V} {b b' : Nat} {p q r p' q' r' : Value}
theorem Pr2.swap {w W : World} {b1 b2 : Nat} (h : Pr2 w W b1 u1 b2 u2 D) : Pr2 w W b2 u2 b1 u1 D := ⟨h.y, h.x, h.g, h.ly, h.lx⟩
theorem vy0 (h1 : Own w3 35 4 u1 D.length (vcs D) 0) (h2 : Own w3 35 4 u2 D.length (vcs D) 0) (hg : w.grownBy w3 none) : Pr2 w ((w3.alloc (.cells #[u1, .slice none 0 0, .string ⟨#[]⟩] 27)).alloc (.cells #[u2, .slice none 0 0, .string ⟨#[]⟩] 27)) w3.heap.size u1 (w3.heap.size + 1) u2 D :=
  ⟨⟨(Blk.new w3 27 _).alloc _, (h1.alloc _).alloc _⟩, ⟨Blk.new1 w3 _ 27 _, (h2.alloc _).alloc _⟩, only_alloc (only_alloc hg _) _, hg.size, Nat.le_succ_of_le hg.size⟩
theorem vy2 (hb : Blk w3 b 27 #[p, q, r]) (h1 : Own w3 35 4 u1 D.length (vcs D) 0) (h2 : Own w3 35 4 u2 D.length (vcs D) 0) (hg : w.grownBy w3 none) (hs : w.heap.size ≤ b) :
    Pr2 w ((((w3.setCell ⟨b, 0, none⟩ u1).setCell ⟨b, 1, none⟩ (.slice none 0 0)).setCell ⟨b, 2, none⟩ (.string ⟨#[]⟩)).alloc (.cells #[u2, .slice none 0 0, .string ⟨#[]⟩] 27)) b u1 w3.heap.size u2 D := by
  refine ⟨(EnvAt.put hb h1).alloc _, ⟨?_, (far27 h2 (own_ne h2 hb (by decide)) _ _ _).alloc _⟩, only_alloc (gr27 hg hs _ _ _) _, hs, hg.size⟩
  have := Blk.new (((w3.setCell ⟨b, 0, none⟩ u1).setCell ⟨b, 1, none⟩ (.slice none 0 0)).setCell ⟨b, 2, none⟩ (.string ⟨#[]⟩)) 27 #[u2, .slice none 0 0, .string ⟨#[]⟩]
  rw [World.size_setCell, World.size_setCell, World.size_setCell] at this
  exact this
theorem vy3 (hb : Blk w3 b 27 #[p, q, r]) (hb' : Blk w3 b' 27 #[p', q', r']) (hbb : b ≠ b') (h1 : Own w3 35 4 u1 D.length (vcs D) 0) (h2 : Own w3 35 4 u2 D.length (vcs D) 0) (hg : w.grownBy w3 none) (hs : w.heap.size ≤ b) (hs' : w.heap.size ≤ b') :
    Pr2 w ((((((w3.setCell ⟨b, 0, none⟩ u1).setCell ⟨b, 1, none⟩ (.slice none 0 0)).setCell ⟨b, 2, none⟩ (.string ⟨#[]⟩)).setCell ⟨b', 0, none⟩ u2).setCell ⟨b', 1, none⟩ (.slice none 0 0)).setCell ⟨b', 2, none⟩ (.string ⟨#[]⟩)) b u1 b' u2 D := by
  have h2' : Blk (((w3.setCell ⟨b, 0, none⟩ u1).setCell ⟨b, 1, none⟩ (.slice none 0 0)).setCell ⟨b, 2, none⟩ (.string ⟨#[]⟩)) b' 27 #[p', q', r'] := Blk.far (p := ⟨b, 2, none⟩) (Blk.far (p := ⟨b, 1, none⟩) (Blk.far (p := ⟨b, 0, none⟩) hb' hbb.symm u1) hbb.symm _) hbb.symm _
  exact ⟨(EnvAt.put hb h1).far3 h2' hbb u2, EnvAt.put h2' (far27 h2 (own_ne h2 hb (by decide)) _ _ _), gr27 (gr27 hg hs _ _ _) hs' _ _ _, hs, hs'⟩
end
theorem strl_of_own {w : World} {a : Option Addr} {ss : List (List UInt8)} {cap : Nat} (h : Own w 9 1 (.slice a ss.length cap) ss.length (ss.map sv) 0) : StrL w a ss := fun i hi => by
  obtain ⟨g, off, cap', hv, _, _, hg, hc⟩ := h.some_ (by omega)
  injection hv with hv _ _
  refine ⟨g, off, hv, hg, ?_⟩
  rw [hc i (by omega), List.getElem?_map, List.getElem?_eq_getElem hi]
  rfl
theorem nm_put {vs : List V} (h : NM vs) (u : V) (hu : u.n.length ≤ 140737488355328) : NM (putF vs u) := fun a ha => by
  rcases put_mem ha with rfl | ha
  · exact hu
  · exact h a ha
theorem nm_set {vs : List V} (h : NM vs) (m val : List UInt8) (hm : m.length ≤ 140737488355328) : NM (setF vs m val).1 := by
  unfold setF
  split
  · exact h
  · split
    · exact h
    · split
      · exact h
      · split
        · exact h
        · exact nm_put h _ (by rw [show ({ lookV vs m with v := val } : V).n = m from lookV_n vs m]; exact hm)
theorem nm_mark {vs : List V} (h : NM vs) (m : List UInt8) (x r : Bool) (hm : m.length ≤ 140737488355328) : NM (markF vs m x r).1 := by
  unfold markF
  split
  · exact h
  · split
    · exact h
    · exact nm_put h _ (by rw [show ({ lookV vs m with x := (lookV vs m).x || x, r := (lookV vs m).r || r } : V).n = m from lookV_n vs m]; exact hm)
theorem nm_unset {vs : List V} (h : NM vs) (m : List UInt8) : NM (unsetF vs m).1 := by
  unfold unsetF
  split
  · exact h
  · split
    · exact h
    · exact fun a ha => h a (List.mem_filter.1 ha).1
theorem nm_do {vs : List V} (h : NM vs) (K : Int) (n val : List UInt8) (A B : Bool) (hn : n.length ≤ 140737488355328) : NM (doF vs K n val A B) := by
  unfold doF
  split
  · exact nm_set h n val hn
  · split
    · exact nm_unset h n
    · split
      · exact nm_mark h n A B hn
      · exact h
theorem nm_step {vs : List V} (h : NM vs) (s : List UInt8) (hs : s.length ≤ 140737488355328) : NM (stepF vs s) := by
  have hc := (cut_len s).1
  unfold stepF
  split
  · exact h
  · split
    · exact nm_mark (nm_set h _ _ (by omega)) _ _ _ (by omega)
    · exact h
theorem nm_from (ss : List (List UInt8)) (hs : ∀ s ∈ ss, s.length ≤ 140737488355328) : NM (fromF ss) := by
  unfold fromF
  have : ∀ (l : List (List UInt8)) (vs : List V), NM vs → (∀ s ∈ l, s.length ≤ 140737488355328) → NM (l.foldl stepF vs) := by
    intro l
    induction l with
    | nil => intro vs h _; exact h
    | cons s l ih => intro vs h hl; exact ih _ (nm_step h s (hl s (List.mem_cons_self ..))) (fun t ht => hl t (List.mem_cons_of_mem _ ht))
  exact this ss [] (fun a ha => by cases ha) hs
def OpV.okm (o : OpV) : Prop := o.n.length ≤ 140737488355328 ∧ o.v.length ≤ 140737488355328
/-- Both envs of the walk. -/
structure PlAt (w W : World) (b6 b7 : Nat) (v6 v7 : Value) (vs : List V) : Prop where
  e : EnvAt W b6 v6 vs
  f : EnvAt W b7 v7 vs
  ne : b6 ≠ b7
  l6 : w.heap.size ≤ b6
  l7 : w.heap.size ≤ b7
  g : w.grownBy W none
theorem PlAt.grown {w W W' : World} {b6 b7 : Nat} {v6 v7 : Value} {vs : List V} (h : PlAt w W b6 b7 v6 v7 vs) (hg : W.grownBy W' none) : PlAt w W' b6 b7 v6 v7 vs := ⟨h.e.grown hg, h.f.grown hg, h.ne, h.l6, h.l7, none_trans h.g hg⟩
theorem PlAt.put6 {w W : World} {b6 b7 : Nat} {v6 v7 u6 u7 : Value} {vs D : List V} (h : PlAt w W b6 b7 v6 v7 vs) (h6 : Own W 35 4 u6 D.length (vcs D) 0) (h7 : Own W 35 4 u7 D.length (vcs D) 0) :
    PlAt w ((((((W.setCell ⟨b6, 0, none⟩ u6).setCell ⟨b6, 1, none⟩ (.slice none 0 0)).setCell ⟨b6, 2, none⟩ (.string ⟨#[]⟩)).setCell ⟨b7, 0, none⟩ u7).setCell ⟨b7, 1, none⟩ (.slice none 0 0)).setCell ⟨b7, 2, none⟩ (.string ⟨#[]⟩)) b6 b7 u6 u7 D := by
  have := vy3 h.e.blk h.f.blk h.ne h6 h7 h.g h.l6 h.l7
  exact ⟨this.x, this.y, h.ne, h.l6, h.l7, this.g⟩

set_option maxHeartbeats 16000000 in
theorem plays_any (ss : List (List UInt8)) (os : List OpV) (a1 a2 : Option Addr) (cap1 cap2 : Nat) (w : World) (hs : StrL w a1 ss) (hsl : ∀ s ∈ ss, s.length ≤ 140737488355328) (ho : OpL w a2 os) (hol : ∀ o ∈ os, o.okm) (hc1 : ss.length ≤ cap1) (hbig1 : ss.length ≤ 9223372036854775807) (hbig : os.length ≤ 9223372036854775807) :
    Calls Tryd.prog 5 #[.slice a1 ss.length cap1, .slice a2 os.length cap2] w fun e w' => e = .returned (.bool true) ∧ w.grownBy w' none := by
  have Hsh := hide (fun w' => shown_any w')
  have hsl2 : ∀ s ∈ ss.take 200, s.length ≤ 140737488355328 := fun s h => hsl s (List.mem_of_mem_take h)
  have hsl3 : ∀ s ∈ ss.take 200, s.length ≤ 9223372036854775807 := fun s h => by have := hsl2 s h; omega
  have hlt2 : (ss.take 200).length ≤ 200 := List.length_take_le _ _
  have Hfrom := hide (fun w' (hs : StrL w' a1 (ss.take 200)) => from_any (ss.take 200) a1 cap1 w' hs (by omega) hsl3)
  have Hrfrom := hide (fun w' (hs : StrL w' a1 (ss.take 200)) => rfrom_any (ss.take 200) a1 cap1 w' hs (by omega) hsl3)
  have HS := hide (hs.take 200)
  have HOP := hide ho
  have HOK := hide hol
  have HWF := hide (wf_from (ss.take 200))
  have HNM := hide (nm_from (ss.take 200) hsl2)
  obtain ⟨E, hE⟩ : ∃ E, fromF (ss.take 200) = E := ⟨_, rfl⟩
  rw [hE] at Hfrom Hrfrom HWF HNM
  unfold EnvIs envV at Hfrom Hrfrom
  obtain ⟨L2, hL2⟩ : ∃ L2, (ss.take 200).length = L2 := ⟨_, rfl⟩
  have hL3 : (ss.length ≤ 200 → ss.length = L2) ∧ (200 < ss.length → 200 = L2) := by
    rw [List.length_take] at hL2
    exact ⟨fun h => by omega, fun h => by omega⟩
  have HL := hide hL3
  rw [hL2] at Hfrom Hrfrom
  clear hs ho hol hsl hE hsl2 hsl3 hlt2 hL2 hL3
  go_enter Tryd.func5, Tryd.ntmps5
  go_wp2_with fail
  refine (Hsh.out _).mono ?_
  rintro e w1 ⟨rfl, g1⟩
  have HG1 := hide g1
  clear g1
  go_upto_if 20 with (fail)
  go_cut [0] (fun v wc => v = .slice a1 L2 cap1 ∧ w.grownBy wc none)
  case first =>
    by_cases h200 : ss.length ≤ 200
    · have q2 : decide ((200 : Int) < (ss.length : Int)) = false := decide_eq_false (by omega)
      obtain rfl := HL.out.1 h200
      go_wp2_with fail
      go_meet
      case rel => exact ⟨rfl, HG1.out⟩
    · have q2 : decide ((200 : Int) < (ss.length : Int)) = true := decide_eq_true (by omega)
      obtain rfl := HL.out.2 (by omega)
      go_wp2_with fail
      go_meet
      case rel => exact ⟨rfl, HG1.out⟩
  case rest =>
  obtain ⟨rfl, hgc⟩ := hcut
  have HG1 := hide hgc
  clear hgc
  go_wp2_with fail
  refine (Hfrom.out _ (HS.out.grown HG1.out)).mono ?_
  rintro e w2 ⟨v2, rfl, ho2, g2⟩
  obtain ⟨a3, c3, rfl, _, _⟩ := ho2.form
  have HE := hide (⟨Blk.new w2 27 _, ho2.alloc _⟩ : EnvAt (w2.alloc (.cells #[.slice a3 E.length c3, .slice none 0 0, .string ⟨#[]⟩] 27)) w2.heap.size (.slice a3 E.length c3) E)
  have HG2 := hide (only_alloc (none_trans HG1.out g2) (.cells #[.slice a3 E.length c3, .slice none 0 0, .string ⟨#[]⟩] 27))
  have lw := (none_trans HG1.out g2).size
  clear ho2 g2
  go_wp2_with fail
  refine (Hrfrom.out _ (HS.out.grown HG2.out)).mono ?_
  rintro e w3 ⟨v3, rfl, ho3, g3⟩
  obtain ⟨a4, c4, rfl, _, _⟩ := ho3.form
  have lw3 : w2.heap.size < w3.heap.size := Nat.lt_of_lt_of_le (by rw [World.size_alloc]; omega) g3.size
  have HP := hide (⟨(HE.out.grown g3).alloc _, ⟨Blk.new w3 27 _, ho3.alloc _⟩, by omega, lw, by omega, only_alloc (none_trans HG2.out g3) _⟩ : PlAt w (w3.alloc (.cells #[.slice a4 E.length c4, .slice none 0 0, .string ⟨#[]⟩] 27)) w2.heap.size w3.heap.size (.slice a3 E.length c3) (.slice a4 E.length c4) E)
  clear ho3 g3
  go_wp2_with fail
  go_loopw [8] (fun v8 wr => ∃ (k : Nat) (v6 v7 : Value) (vs : List V), v8 = .int .i64 k ∧ k ≤ os.length ∧ WF vs ∧ NM vs ∧ PlAt w wr w2.heap.size w3.heap.size v6 v7 vs) (fun v8 _ => os.length - (intOf v8).toNat)
  case atStart => exact ⟨0, _, _, _, rfl, Nat.zero_le _, HWF.out, HNM.out, HP.out⟩
  case round =>
    obtain ⟨k, v6, v7, vs, rfl, hk, hwf, hnm, hP⟩ := hrel
    have HWv := hide hwf
    have HNv := hide hnm
    have HPr := hide hP
    obtain ⟨av, cv, rfl, _, _⟩ := hP.e.own.form
    obtain ⟨au, cu, rfl, _, _⟩ := hP.f.own.form
    have hvl := hwf.len
    clear hwf hnm hP
    obtain ⟨b6, hb6⟩ : ∃ b6, w2.heap.size = b6 := ⟨_, rfl⟩
    obtain ⟨b7, hb7⟩ : ∃ b7, w3.heap.size = b7 := ⟨_, rfl⟩
    rw [hb6, hb7] at HPr
    simp only [hb6, hb7]
    have HB67 := hide (And.intro hb6 hb7)
    clear hb6 hb7 lw lw3
    obtain ⟨d0, d1, d2⟩ := res27 HPr.out.e.blk
    have lb := Blk.lt HPr.out.e.blk
    obtain ⟨f0, f1, f2⟩ := res27 HPr.out.f.blk
    have lf := Blk.lt HPr.out.f.blk
    have Hsame := hide (fun vs v1 v2 W h1 h2 hl => rsame_any vs v1 v2 W h1 h2 hl)
    unfold envV at Hsame
    by_cases hlt : k < os.length
    · have q0 : decide ((k : Int) < (os.length : Int)) = true := decide_eq_true (by omega)
      by_cases h100 : k < 100
      · have q1 : decide ((k : Int) < 100) = true := decide_eq_true (by omega)
        have hib : (0 : Int) ≤ k ∧ (k : Int) < (os.length : Int) := by omega
        obtain ⟨b, off, hae, hb, p0, p1, p2, p3, p4⟩ := HOP.out k hlt
        have HPO := hide (And.intro hb (And.intro p0 (And.intro p1 (And.intro p2 (And.intro p3 p4)))))
        have HOKk := hide (HOK.out _ (List.getElem_mem hlt))
        obtain ⟨o, hoe⟩ : ∃ o, os[k] = o := ⟨_, rfl⟩
        rw [hoe] at HPO HOKk
        clear hoe p0 p1 p2 p3 p4 hb
        obtain ⟨K, n, val, A, B⟩ := o
        simp only [] at HPO
        subst hae
        have hn0 : n.length ≤ 140737488355328 := HOKk.out.1
        have hv0 : val.length ≤ 140737488355328 := HOKk.out.2
        have HND := hide (nm_do HNv.out K n val A B hn0)
        have HWD := hide (wf_do HWv.out K n val A B)
        have Hdo0 := hide (fun v1 v2 W (h1 : Own W 35 4 v1 vs.length (vcs vs) 0) (h2 : Own W 35 4 v2 vs.length (vcs vs) 0) => does_any vs K n val A B v1 v2 W HWv.out h1 h2 (by omega) (by omega))
        unfold DoPost envV at Hdo0
        obtain ⟨D, hD⟩ : ∃ D, doF vs K n val A B = D := ⟨_, rfl⟩
        rw [hD] at Hdo0 HND HWD
        clear hD
        have hDl := HWD.out.len
        go_upto_region 9 with (fail)
        go_cut [9] (fun v wc => ∃ vw, v = vw ∧ Own wc 35 4 vw vs.length (vcs vs) 0 ∧ wr.grownBy wc none)
        case first =>
          have hsrc := Own.src (P := Tryd.prog) (tx := 25) (e' := 35) (HPr.out.e.own.alloc (.cells #[] 35)) (by kernel_rfl) (vcs_one vs)
          have hmd := Own.made wr #[] 35 4 0 0 rfl (by unfold maxLen; omega)
          have Hsrc := hide hsrc
          have Hmd := hide hmd
          clear hsrc hmd
          go_wp2_with (at_builtin; refine wpList_appAt 35 (.agg #[.string ⟨#[]⟩, .string ⟨#[]⟩, .bool false, .bool false]) 4 40 Tryd.underlying25 info35 rfl (.slice (some ⟨wr.heap.size, 0, none⟩) 0 0) 0 [] 0 _ vs.length (vcs vs) rfl rfl Hmd.out (by omega) Hsrc.out (by unfold maxLen; omega) (by omega) ?_; intro v' w' ho hc hn _; (have HO := hide ho); (have HC := hide hc); clear ho hc hn)
          go_meet
          case rel =>
            refine ⟨v', rfl, by have := HO.out; rwa [Nat.zero_add, List.nil_append] at this, ?_⟩
            exact (((Chg.refl nobody wr).alloc _).trans HC.out (fun i hi hb => by simp [Value.ownBlock] at hb; omega)).grown (fun _ _ h => h)
        case rest =>
        obtain ⟨wo, rfl⟩ : ∃ wo : World, wo = wc := ⟨_, rfl⟩
        obtain ⟨vw, rfl, how, hgw⟩ := hcut
        obtain ⟨aw, cw, rfl, _, _⟩ := how.form
        have HOW := hide how
        have HPw := hide (HPr.out.grown hgw)
        clear how hgw d0 d1 d2 lb f0 f1 f2 lf
        obtain ⟨d0, d1, d2⟩ := res27 HPw.out.e.blk
        have lb := Blk.lt HPw.out.e.blk
        obtain ⟨f0, f1, f2⟩ := res27 HPw.out.f.blk
        have lf := Blk.lt HPw.out.f.blk
        have hb := HPO.out.1
        have hbs : b < wo.heap.size := Nat.lt_of_lt_of_le hb HPw.out.g.size
        have p0 := old_cell HPw.out.g hb HPO.out.2.1
        have p1 := old_cell HPw.out.g hb HPO.out.2.2.1
        have p2 := old_cell HPw.out.g hb HPO.out.2.2.2.1
        have p3 := old_cell HPw.out.g hb HPO.out.2.2.2.2.1
        have p4 := old_cell HPw.out.g hb HPO.out.2.2.2.2.2
        go_wp2_with fail
        go_cut [10, 11, 12] (fun v10 v11 v12 wx => ∃ (bx bz : Nat) (vx vy : Value), v10 = .pointer (some ⟨bx, 0, none⟩) ∧ v11 = .pointer (some ⟨bz, 0, none⟩) ∧ v12 = .bool true ∧ Pr2 wo wx bx vx bz vy D)
        case first =>
         have Hdo := hide (fun W (hW : wo.grownBy W none) => Hdo0.out (.slice av vs.length cv) (.slice au vs.length cu) W (HPw.out.e.own.none_ hW) (HPw.out.f.own.none_ hW))
         have Hk : Hid (∀ W : World, wo.grownBy W none → (W.cell? ⟨b6, 0, none⟩ = some (.slice av vs.length cv) ∧ W.cell? ⟨b6, 1, none⟩ = some (.slice none 0 0) ∧ W.cell? ⟨b6, 2, none⟩ = some (.string ⟨#[]⟩) ∧ W.cell? ⟨b7, 0, none⟩ = some (.slice au vs.length cu) ∧ W.cell? ⟨b7, 1, none⟩ = some (.slice none 0 0) ∧ W.cell? ⟨b7, 2, none⟩ = some (.string ⟨#[]⟩) ∧ W.cell? ⟨b, off + k * 5, none⟩ = some (.int .i64 K) ∧ W.cell? ⟨b, off + k * 5 + 1, none⟩ = some (.string ⟨n.toArray⟩) ∧ W.cell? ⟨b, off + k * 5 + 2, none⟩ = some (.string ⟨val.toArray⟩) ∧ W.cell? ⟨b, off + k * 5 + 3, none⟩ = some (.bool A) ∧ W.cell? ⟨b, off + k * 5 + 4, none⟩ = some (.bool B))) :=
           hide (fun W hg => ⟨old_cell hg lb d0, old_cell hg lb d1, old_cell hg lb d2, old_cell hg lf f0, old_cell hg lf f1, old_cell hg lf f2, old_cell hg hbs p0, old_cell hg hbs p1, old_cell hg hbs p2, old_cell hg hbs p3, old_cell hg hbs p4⟩)
         go_region_held3 (fun W => W.cell? ⟨b6, 0, none⟩ = some (.slice av vs.length cv) ∧ W.cell? ⟨b6, 1, none⟩ = some (.slice none 0 0) ∧ W.cell? ⟨b6, 2, none⟩ = some (.string ⟨#[]⟩) ∧ W.cell? ⟨b7, 0, none⟩ = some (.slice au vs.length cu) ∧ W.cell? ⟨b7, 1, none⟩ = some (.slice none 0 0) ∧ W.cell? ⟨b7, 2, none⟩ = some (.string ⟨#[]⟩) ∧ W.cell? ⟨b, off + k * 5, none⟩ = some (.int .i64 K) ∧ W.cell? ⟨b, off + k * 5 + 1, none⟩ = some (.string ⟨n.toArray⟩) ∧ W.cell? ⟨b, off + k * 5 + 2, none⟩ = some (.string ⟨val.toArray⟩) ∧ W.cell? ⟨b, off + k * 5 + 3, none⟩ = some (.bool A) ∧ W.cell? ⟨b, off + k * 5 + 4, none⟩ = some (.bool B))
           (first | go_keep | exact Hk.out _ (by repeat' (first | (with_reducible exact only_refl _ _) | (with_reducible refine none_setCell ?_ ?_ _) | (with_reducible refine none_trans ?_ hg) | (with_reducible refine only_drew ?_) | (with_reducible refine only_alloc ?_ _) | omega | (simp; done) | (simp; omega))))
           ((go_at_call 9; refine (Hdo.out _ (by repeat' (first | (with_reducible exact only_refl _ _) | (with_reducible refine only_drew ?_) | (with_reducible refine only_alloc ?_ _)))).mono ?_; rintro e w3 ⟨u1, u2, rfl, ho1, ho2, hg⟩; (obtain ⟨b1, k1, rfl, _, _⟩ := ho1.form); (obtain ⟨b2, k2, rfl, _, _⟩ := ho2.form); (have HG3 := hide (none_trans (show wo.grownBy _ none by repeat' (first | (with_reducible exact only_refl _ _) | (with_reducible refine only_drew ?_) | (with_reducible refine only_alloc ?_ _))) hg)); (have HO1 := hide ho1); (have HO2 := hide ho2); (first | (have hz := ah2 (W0 := wo) (w3 := w3) wo.heap.size rfl (by exact hg); obtain ⟨⟨HBx, HBy⟩, ⟨⟨x0, x1, x2⟩, ⟨zx0, zx1, zx2⟩, lx⟩, ⟨y0, y1, y2⟩, ⟨zy0, zy1, zy2⟩, ly⟩ := hz) | (have hz := ah2 (W0 := wo.drew) (w3 := w3) wo.heap.size rfl (by exact hg); obtain ⟨⟨HBx, HBy⟩, ⟨⟨x0, x1, x2⟩, ⟨zx0, zx1, zx2⟩, lx⟩, ⟨y0, y1, y2⟩, ⟨zy0, zy1, zy2⟩, ly⟩ := hz) | (have hz := ah2 (W0 := wo.drew.drew) (w3 := w3) wo.heap.size rfl (by exact hg); obtain ⟨⟨HBx, HBy⟩, ⟨⟨x0, x1, x2⟩, ⟨zx0, zx1, zx2⟩, lx⟩, ⟨y0, y1, y2⟩, ⟨zy0, zy1, zy2⟩, ly⟩ := hz) | (have hz := ah1 (W0 := wo) (w3 := w3) wo.heap.size rfl (by exact hg); obtain ⟨HBx, ⟨x0, x1, x2⟩, ⟨zx0, zx1, zx2⟩, lx⟩ := hz) | (have hz := ah1 (W0 := wo.drew) (w3 := w3) wo.heap.size rfl (by exact hg); obtain ⟨HBx, ⟨x0, x1, x2⟩, ⟨zx0, zx1, zx2⟩, lx⟩ := hz) | (have hz := ah1 (W0 := wo.drew.drew) (w3 := w3) wo.heap.size rfl (by exact hg); obtain ⟨HBx, ⟨x0, x1, x2⟩, ⟨zx0, zx1, zx2⟩, lx⟩ := hz) | skip)))
         all_goals try go_wp2_with fail
         all_goals go_meet
         all_goals (case' rel => skip)
         · refine ⟨w3.heap.size, w3.heap.size + 1, .slice b1 D.length k1, .slice b2 D.length k2, rfl, rfl, rfl, ?_⟩
           exact vy0 HO1.out HO2.out HG3.out
         · refine ⟨w3.heap.size + 1, w3.heap.size, .slice b1 D.length k1, .slice b2 D.length k2, rfl, rfl, rfl, ?_⟩
           exact (vy0 HO2.out HO1.out HG3.out).swap
         · refine ⟨wo.heap.size, w3.heap.size, .slice b1 D.length k1, .slice b2 D.length k2, rfl, rfl, rfl, ?_⟩
           exact vy2 HBx.out HO1.out HO2.out HG3.out (Nat.le_refl _)
         · refine ⟨wo.heap.size, wo.heap.size + 1, .slice b1 D.length k1, .slice b2 D.length k2, rfl, rfl, rfl, ?_⟩
           exact vy3 HBx.out HBy.out (by omega) HO1.out HO2.out HG3.out (Nat.le_refl _) (by omega)
         · refine ⟨w3.heap.size, wo.heap.size, .slice b1 D.length k1, .slice b2 D.length k2, rfl, rfl, rfl, ?_⟩
           exact (vy2 HBx.out HO2.out HO1.out HG3.out (Nat.le_refl _)).swap
         · refine ⟨wo.heap.size + 1, wo.heap.size, .slice b1 D.length k1, .slice b2 D.length k2, rfl, rfl, rfl, ?_⟩
           exact vy3 HBy.out HBx.out (by omega) HO1.out HO2.out HG3.out (by omega) (Nat.le_refl _)
        case rest =>
        obtain ⟨bx, bz, vx, vy, rfl, rfl, rfl, hp2⟩ := hcut
        obtain ⟨ax, cx, rfl, _, _⟩ := hp2.x.own.form
        obtain ⟨ay, cy, rfl, _, _⟩ := hp2.y.own.form
        obtain ⟨wy, rfl⟩ : ∃ wy : World, wy = wc := ⟨_, rfl⟩
        have HP2 := hide hp2
        have HPx := hide (HPw.out.grown hp2.g)
        have HBX := hide (show (bx ≠ b6 ∧ bx ≠ b7 ∧ bz ≠ b6 ∧ bz ≠ b7) from ⟨fun e => by have := hp2.lx; have := Blk.lt HPw.out.e.blk; omega, fun e => by have := hp2.lx; have := Blk.lt HPw.out.f.blk; omega, fun e => by have := hp2.ly; have := Blk.lt HPw.out.e.blk; omega, fun e => by have := hp2.ly; have := Blk.lt HPw.out.f.blk; omega⟩)
        have HOx := hide (HOW.out.none_ hp2.g)
        clear hp2 d0 d1 d2 lb f0 f1 f2 lf p0 p1 p2 p3 p4 hbs
        obtain ⟨d0, d1, d2⟩ := res27 HPx.out.e.blk
        have lb := Blk.lt HPx.out.e.blk
        go_wp2_with fail
        refine (Hsame.out vs _ _ _ HOx.out HPx.out.e.own (by omega)).mono ?_
        rintro e w4 ⟨rfl, g4⟩
        have HP4 := hide (HPx.out.grown g4)
        have HX4 := hide (HP2.out.x.grown g4)
        have HY4 := hide (HP2.out.y.grown g4)
        clear g4 d0 d1 d2 lb
        obtain ⟨d0, d1, d2⟩ := res27 HX4.out.blk
        have lb := Blk.lt HX4.out.blk
        obtain ⟨f0, f1, f2⟩ := res27 HY4.out.blk
        have lf := Blk.lt HY4.out.blk
        go_wp2_with fail
        refine (Hsame.out D _ _ _ HX4.out.own HY4.out.own (by omega)).mono ?_
        rintro e w5 ⟨rfl, g5⟩
        have HP5 := hide (HP4.out.grown g5)
        have HX5 := hide (HX4.out.grown g5)
        have HY5 := hide (HY4.out.grown g5)
        clear g5 d0 d1 d2 lb f0 f1 f2 lf
        obtain ⟨d0, d1, d2⟩ := res27 HX5.out.blk
        have lb := Blk.lt HX5.out.blk
        obtain ⟨f0, f1, f2⟩ := res27 HY5.out.blk
        have lf := Blk.lt HY5.out.blk
        go_upto_region 13 with (fail)
        go_cut [15] (fun v wx => v = .bool true ∧ w5.grownBy wx none)
        case first =>
         have H1 := hide (fun W (hW : w5.grownBy W none) => out_any D (.slice ax D.length cx) W HWD.out HND.out (HX5.out.own.none_ hW))
         have H2 := hide (fun W (hW : w5.grownBy W none) => rout_any D (.slice ay D.length cy) W HWD.out HND.out (HY5.out.own.none_ hW))
         have H3 := hide (fun ss a c a' c' W (h1 : Own W 9 1 (.slice a ss.length c) ss.length (ss.map sv) 0) (h2 : Own W 9 1 (.slice a' ss.length c') ss.length (ss.map sv) 0) (hl : ss.length ≤ 1000000) => lsame_any ss a a' c c' W (strl_of_own h1) (strl_of_own h2) hl)
         unfold envV LsPost at H1 H2
         have hll := out_len D
         obtain ⟨LL, hLL⟩ : ∃ LL, outF D = LL := ⟨_, rfl⟩
         rw [hLL] at H1 H2 hll
         clear hLL
         have Hk : Hid (∀ W : World, w5.grownBy W none → (W.cell? ⟨bx, 0, none⟩ = some (.slice ax D.length cx) ∧ W.cell? ⟨bx, 1, none⟩ = some (.slice none 0 0) ∧ W.cell? ⟨bx, 2, none⟩ = some (.string ⟨#[]⟩) ∧ W.cell? ⟨bz, 0, none⟩ = some (.slice ay D.length cy) ∧ W.cell? ⟨bz, 1, none⟩ = some (.slice none 0 0) ∧ W.cell? ⟨bz, 2, none⟩ = some (.string ⟨#[]⟩))) :=
           hide (fun W hg => ⟨old_cell hg lb d0, old_cell hg lb d1, old_cell hg lb d2, old_cell hg lf f0, old_cell hg lf f1, old_cell hg lf f2⟩)
         go_region_held3 (fun W => W.cell? ⟨bx, 0, none⟩ = some (.slice ax D.length cx) ∧ W.cell? ⟨bx, 1, none⟩ = some (.slice none 0 0) ∧ W.cell? ⟨bx, 2, none⟩ = some (.string ⟨#[]⟩) ∧ W.cell? ⟨bz, 0, none⟩ = some (.slice ay D.length cy) ∧ W.cell? ⟨bz, 1, none⟩ = some (.slice none 0 0) ∧ W.cell? ⟨bz, 2, none⟩ = some (.string ⟨#[]⟩))
           (first | go_keep | exact Hk.out _ HGR.out | exact Hk.out _ HGQ.out | exact Hk.out _ (only_drew HGR.out) | exact Hk.out _ (only_drew HGQ.out) | exact Hk.out _ (by repeat' (first | (with_reducible exact only_refl _ _) | (with_reducible refine only_drew ?_) | (with_reducible refine only_alloc ?_ _))))
           (first | (go_at_call 18; refine (H1.out _ (by first | (with_reducible exact none_trans HGQ.out (by repeat' (first | (with_reducible exact only_refl _ _) | (with_reducible refine only_drew ?_) | (with_reducible refine only_alloc ?_ _)))) | exact (by repeat' (first | (with_reducible exact only_refl _ _) | (with_reducible refine only_drew ?_) | (with_reducible refine only_alloc ?_ _))))).mono ?_; rintro e w9 ⟨u1, rfl, ho, hg⟩; (obtain ⟨ap, cp, rfl, _, _⟩ := ho.form); (have HA := hide ho); (first | (have HB := hide (HB.out.none_ (none_trans (by repeat' (first | (with_reducible exact only_refl _ _) | (with_reducible refine only_drew ?_) | (with_reducible refine only_alloc ?_ _))) hg)); have HGQ := hide (none_trans HGQ.out (none_trans (by repeat' (first | (with_reducible exact only_refl _ _) | (with_reducible refine only_drew ?_) | (with_reducible refine only_alloc ?_ _))) hg))) | (have HGQ := hide (none_trans (show w5.grownBy _ none by repeat' (first | (with_reducible exact only_refl _ _) | (with_reducible refine only_drew ?_) | (with_reducible refine only_alloc ?_ _))) hg)))) | (go_at_call 19; refine (H2.out _ (by first | (with_reducible exact none_trans HGQ.out (by repeat' (first | (with_reducible exact only_refl _ _) | (with_reducible refine only_drew ?_) | (with_reducible refine only_alloc ?_ _)))) | exact (by repeat' (first | (with_reducible exact only_refl _ _) | (with_reducible refine only_drew ?_) | (with_reducible refine only_alloc ?_ _))))).mono ?_; rintro e w9 ⟨u2, rfl, ho, hg⟩; (obtain ⟨aq, cq, rfl, _, _⟩ := ho.form); (have HB := hide ho); (first | (have HA := hide (HA.out.none_ (none_trans (by repeat' (first | (with_reducible exact only_refl _ _) | (with_reducible refine only_drew ?_) | (with_reducible refine only_alloc ?_ _))) hg)); have HGQ := hide (none_trans HGQ.out (none_trans (by repeat' (first | (with_reducible exact only_refl _ _) | (with_reducible refine only_drew ?_) | (with_reducible refine only_alloc ?_ _))) hg))) | (have HGQ := hide (none_trans (show w5.grownBy _ none by repeat' (first | (with_reducible exact only_refl _ _) | (with_reducible refine only_drew ?_) | (with_reducible refine only_alloc ?_ _))) hg)))) | (go_at_call 17; refine (H3.out LL _ _ _ _ _ (HA.out.none_ (by repeat' (first | (with_reducible exact only_refl _ _) | (with_reducible refine only_drew ?_) | (with_reducible refine only_alloc ?_ _)))) (HB.out.none_ (by repeat' (first | (with_reducible exact only_refl _ _) | (with_reducible refine only_drew ?_) | (with_reducible refine only_alloc ?_ _)))) (by omega)).mono ?_; rintro e w9 ⟨rfl, hg⟩; (have HGR := hide (none_trans HGQ.out (none_trans (by repeat' (first | (with_reducible exact only_refl _ _) | (with_reducible refine only_drew ?_) | (with_reducible refine only_alloc ?_ _))) hg)))))
         all_goals try go_wp2_with fail
         all_goals go_meet
         all_goals (case' rel => skip)
         all_goals exact ⟨rfl, HGR.out⟩
        case rest =>
        obtain ⟨rfl, g6⟩ := hcut
        obtain ⟨w6, rfl⟩ : ∃ w6 : World, w6 = wc := ⟨_, rfl⟩
        have HP6 := hide (HP5.out.grown g6)
        have HX6 := hide (HX5.out.grown g6)
        have HY6 := hide (HY5.out.grown g6)
        clear g6 d0 d1 d2 lb f0 f1 f2 lf
        obtain ⟨d0, d1, d2⟩ := res27 HX6.out.blk
        have lb := Blk.lt HX6.out.blk
        obtain ⟨f0, f1, f2⟩ := res27 HY6.out.blk
        have lf := Blk.lt HY6.out.blk
        go_upto_region 14 with (fail)
        go_cut [16] (fun v wx => v = .bool true ∧ w6.grownBy wx none)
        case first =>
         have H1 := hide (fun W (hW : w6.grownBy W none) => list_any D (.slice ax D.length cx) W HWD.out HND.out (HX6.out.own.none_ hW))
         have H2 := hide (fun W (hW : w6.grownBy W none) => rlist_any D (.slice ay D.length cy) W HWD.out HND.out (HY6.out.own.none_ hW))
         have H3 := hide (fun ss a c a' c' W (h1 : Own W 9 1 (.slice a ss.length c) ss.length (ss.map sv) 0) (h2 : Own W 9 1 (.slice a' ss.length c') ss.length (ss.map sv) 0) (hl : ss.length ≤ 1000000) => lsame_any ss a a' c c' W (strl_of_own h1) (strl_of_own h2) hl)
         unfold envV LsPost at H1 H2
         have hll := list_len D
         obtain ⟨LL, hLL⟩ : ∃ LL, listF D = LL := ⟨_, rfl⟩
         rw [hLL] at H1 H2 hll
         clear hLL
         have Hk : Hid (∀ W : World, w6.grownBy W none → (W.cell? ⟨bx, 0, none⟩ = some (.slice ax D.length cx) ∧ W.cell? ⟨bx, 1, none⟩ = some (.slice none 0 0) ∧ W.cell? ⟨bx, 2, none⟩ = some (.string ⟨#[]⟩) ∧ W.cell? ⟨bz, 0, none⟩ = some (.slice ay D.length cy) ∧ W.cell? ⟨bz, 1, none⟩ = some (.slice none 0 0) ∧ W.cell? ⟨bz, 2, none⟩ = some (.string ⟨#[]⟩))) :=
           hide (fun W hg => ⟨old_cell hg lb d0, old_cell hg lb d1, old_cell hg lb d2, old_cell hg lf f0, old_cell hg lf f1, old_cell hg lf f2⟩)
         go_region_held3 (fun W => W.cell? ⟨bx, 0, none⟩ = some (.slice ax D.length cx) ∧ W.cell? ⟨bx, 1, none⟩ = some (.slice none 0 0) ∧ W.cell? ⟨bx, 2, none⟩ = some (.string ⟨#[]⟩) ∧ W.cell? ⟨bz, 0, none⟩ = some (.slice ay D.length cy) ∧ W.cell? ⟨bz, 1, none⟩ = some (.slice none 0 0) ∧ W.cell? ⟨bz, 2, none⟩ = some (.string ⟨#[]⟩))
           (first | go_keep | exact Hk.out _ HGR.out | exact Hk.out _ HGQ.out | exact Hk.out _ (only_drew HGR.out) | exact Hk.out _ (only_drew HGQ.out) | exact Hk.out _ (by repeat' (first | (with_reducible exact only_refl _ _) | (with_reducible refine only_drew ?_) | (with_reducible refine only_alloc ?_ _))))
           (first | (go_at_call 20; refine (H1.out _ (by first | (with_reducible exact none_trans HGQ.out (by repeat' (first | (with_reducible exact only_refl _ _) | (with_reducible refine only_drew ?_) | (with_reducible refine only_alloc ?_ _)))) | exact (by repeat' (first | (with_reducible exact only_refl _ _) | (with_reducible refine only_drew ?_) | (with_reducible refine only_alloc ?_ _))))).mono ?_; rintro e w9 ⟨u1, rfl, ho, hg⟩; (obtain ⟨ap, cp, rfl, _, _⟩ := ho.form); (have HA := hide ho); (first | (have HB := hide (HB.out.none_ (none_trans (by repeat' (first | (with_reducible exact only_refl _ _) | (with_reducible refine only_drew ?_) | (with_reducible refine only_alloc ?_ _))) hg)); have HGQ := hide (none_trans HGQ.out (none_trans (by repeat' (first | (with_reducible exact only_refl _ _) | (with_reducible refine only_drew ?_) | (with_reducible refine only_alloc ?_ _))) hg))) | (have HGQ := hide (none_trans (show w6.grownBy _ none by repeat' (first | (with_reducible exact only_refl _ _) | (with_reducible refine only_drew ?_) | (with_reducible refine only_alloc ?_ _))) hg)))) | (go_at_call 21; refine (H2.out _ (by first | (with_reducible exact none_trans HGQ.out (by repeat' (first | (with_reducible exact only_refl _ _) | (with_reducible refine only_drew ?_) | (with_reducible refine only_alloc ?_ _)))) | exact (by repeat' (first | (with_reducible exact only_refl _ _) | (with_reducible refine only_drew ?_) | (with_reducible refine only_alloc ?_ _))))).mono ?_; rintro e w9 ⟨u2, rfl, ho, hg⟩; (obtain ⟨aq, cq, rfl, _, _⟩ := ho.form); (have HB := hide ho); (first | (have HA := hide (HA.out.none_ (none_trans (by repeat' (first | (with_reducible exact only_refl _ _) | (with_reducible refine only_drew ?_) | (with_reducible refine only_alloc ?_ _))) hg)); have HGQ := hide (none_trans HGQ.out (none_trans (by repeat' (first | (with_reducible exact only_refl _ _) | (with_reducible refine only_drew ?_) | (with_reducible refine only_alloc ?_ _))) hg))) | (have HGQ := hide (none_trans (show w6.grownBy _ none by repeat' (first | (with_reducible exact only_refl _ _) | (with_reducible refine only_drew ?_) | (with_reducible refine only_alloc ?_ _))) hg)))) | (go_at_call 17; refine (H3.out LL _ _ _ _ _ (HA.out.none_ (by repeat' (first | (with_reducible exact only_refl _ _) | (with_reducible refine only_drew ?_) | (with_reducible refine only_alloc ?_ _)))) (HB.out.none_ (by repeat' (first | (with_reducible exact only_refl _ _) | (with_reducible refine only_drew ?_) | (with_reducible refine only_alloc ?_ _)))) (by omega)).mono ?_; rintro e w9 ⟨rfl, hg⟩; (have HGR := hide (none_trans HGQ.out (none_trans (by repeat' (first | (with_reducible exact only_refl _ _) | (with_reducible refine only_drew ?_) | (with_reducible refine only_alloc ?_ _))) hg)))))
         all_goals try go_wp2_with fail
         all_goals go_meet
         all_goals (case' rel => skip)
         all_goals exact ⟨rfl, HGR.out⟩
        case rest =>
        obtain ⟨rfl, g7⟩ := hcut
        obtain ⟨w7, rfl⟩ : ∃ w7 : World, w7 = wc := ⟨_, rfl⟩
        have HP7 := hide (HP6.out.grown g7)
        have HX7 := hide (HX6.out.grown g7)
        have HY7 := hide (HY6.out.grown g7)
        clear g7 d0 d1 d2 lb f0 f1 f2 lf
        have hbs : b < w7.heap.size := Nat.lt_of_lt_of_le hb HP7.out.g.size
        have p1 := old_cell HP7.out.g hb HPO.out.2.2.1
        go_upto_region 15 with (fail)
        go_cut [103] (fun v wx => v = .bool false ∧ w7.grownBy wx none)
        case first =>
         have H1 := hide (fun W => name_any n W (by omega))
         have H2 := hide (fun W => rname_any n W (by omega))
         unfold sv at H1 H2
         obtain ⟨nb, hnb⟩ : ∃ nb, nameB n = nb := ⟨_, rfl⟩
         rw [hnb] at H1 H2
         have qnb : (nb != nb) = false := by simp
         clear hnb
         have Hk : Hid (∀ W : World, w7.grownBy W none → (W.cell? ⟨b, off + k * 5 + 1, none⟩ = some (.string ⟨n.toArray⟩))) := hide (fun W hg => old_cell hg hbs p1)
         go_region_held3 (fun W => W.cell? ⟨b, off + k * 5 + 1, none⟩ = some (.string ⟨n.toArray⟩))
           (first | go_keep | exact Hk.out _ HGR.out | exact Hk.out _ HGQ.out | exact Hk.out _ (only_drew HGR.out) | exact Hk.out _ (only_drew HGQ.out) | exact Hk.out _ (by repeat' (first | (with_reducible exact only_refl _ _) | (with_reducible refine only_drew ?_) | (with_reducible refine only_alloc ?_ _))))
           (first | (go_at_call 22; refine (H1.out _).mono ?_; rintro e w9 ⟨rfl, hg⟩; (first | (have HGQ := hide (none_trans HGQ.out (none_trans (by repeat' (first | (with_reducible exact only_refl _ _) | (with_reducible refine only_drew ?_) | (with_reducible refine only_alloc ?_ _))) hg))) | (have HGQ := hide (none_trans (show w7.grownBy _ none by repeat' (first | (with_reducible exact only_refl _ _) | (with_reducible refine only_drew ?_) | (with_reducible refine only_alloc ?_ _))) hg)))) | (go_at_call 23; refine (H2.out _).mono ?_; rintro e w9 ⟨rfl, hg⟩; (first | (have HGQ := hide (none_trans HGQ.out (none_trans (by repeat' (first | (with_reducible exact only_refl _ _) | (with_reducible refine only_drew ?_) | (with_reducible refine only_alloc ?_ _))) hg))) | (have HGQ := hide (none_trans (show w7.grownBy _ none by repeat' (first | (with_reducible exact only_refl _ _) | (with_reducible refine only_drew ?_) | (with_reducible refine only_alloc ?_ _))) hg)))))
         all_goals try go_wp2_with fail
         all_goals go_meet
         all_goals (case' rel => skip)
         all_goals exact ⟨rfl, HGQ.out⟩
        case rest =>
        obtain ⟨rfl, g8⟩ := hcut
        have HP8 := hide (HP7.out.grown g8)
        have HX8 := hide (HX7.out.grown g8)
        have HY8 := hide (HY7.out.grown g8)
        clear g8 p1 hbs
        obtain ⟨d0, d1, d2⟩ := res27 HX8.out.blk
        have lb := Blk.lt HX8.out.blk
        obtain ⟨f0, f1, f2⟩ := res27 HY8.out.blk
        have lf := Blk.lt HY8.out.blk
        obtain ⟨e0, e1, e2⟩ := res27 HP8.out.e.blk
        obtain ⟨h0, h1, h2⟩ := res27 HP8.out.f.blk
        have le := Blk.lt HP8.out.e.blk
        have lh := Blk.lt HP8.out.f.blk
        have ze0 := Blk.frozen HP8.out.e.blk 0
        have ze1 := Blk.frozen HP8.out.e.blk 1
        have ze2 := Blk.frozen HP8.out.e.blk 2
        have zh0 := Blk.frozen HP8.out.f.blk 0
        have zh1 := Blk.frozen HP8.out.f.blk 1
        have zh2 := Blk.frozen HP8.out.f.blk 2
        have hn67 := HP8.out.ne
        have hn76 := hn67.symm
        obtain ⟨hx6, hx7, hz6, hz7⟩ := HBX.out
        have hx6' := hx6.symm
        have hx7' := hx7.symm
        have hz6' := hz6.symm
        have hz7' := hz7.symm
        go_wp2_with fail
        go_roundw
        case rel => exact ⟨k + 1, .slice ax D.length cx, .slice ay D.length cy, D, by go_num, by omega, HWD.out, HND.out, HP8.out.put6 HX8.out.own HY8.out.own⟩
        case measure => simp [intOf]; omega
      · have q1 : decide ((k : Int) < 100) = false := decide_eq_false (by omega)
        go_wp2_with fail
        refine (Hsame.out vs _ _ _ HPr.out.e.own HPr.out.f.own (by omega)).mono ?_
        rintro e w9 ⟨rfl, g9⟩
        go_wp2_with fail
        go_ret
        exact ⟨rfl, none_trans HPr.out.g g9⟩
    · obtain rfl : k = os.length := by omega
      have q0 : decide ((os.length : Int) < (os.length : Int)) = false := decide_eq_false (by omega)
      go_wp2_with fail
      refine (Hsame.out vs _ _ _ HPr.out.e.own HPr.out.f.own (by omega)).mono ?_
      rintro e w9 ⟨rfl, g9⟩
      go_wp2_with fail
      go_ret
      exact ⟨rfl, none_trans HPr.out.g g9⟩

end Go.Proofs.YtdcfpklohleoiaaDoor
