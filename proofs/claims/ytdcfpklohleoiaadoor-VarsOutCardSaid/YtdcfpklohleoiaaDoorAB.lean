/- Out: the texts of what is exported. -/
import Derived.Test.YtdcfpklohleoiaaDoorAA
import Derived.Test.YtdcfpklohleoiaaDoorPerm
namespace Go.Proofs.YtdcfpklohleoiaaDoor
open Go.RowKit
set_option maxRecDepth 100000

def eqT (a : V) : List UInt8 := a.n ++ [61] ++ a.v
def outF (vs : List V) : List (List UInt8) := (vs.filter fun a => a.x).map eqT
theorem out_snoc (vs : List V) (a : V) : outF (vs ++ [a]) = if a.x = true then outF vs ++ [eqT a] else outF vs := by
  unfold outF
  rw [List.filter_append]
  by_cases h : a.x = true <;> simp [h]
theorem out_len (vs : List V) : (outF vs).length ≤ vs.length := by
  unfold outF
  rw [List.length_map]
  exact List.length_filter_le _ _
/-- A slice of texts that is one's own. -/
def LsPost (w : World) (ss : List (List UInt8)) (e : Ending) (w' : World) : Prop := ∃ v, e = .returned v ∧ Own w' 9 1 v ss.length (ss.map sv) 0 ∧ w.grownBy w' none
theorem info9 : (Tryd.prog.info? 9).map (fun i => (i.zero, i.size, i.bytes)) = some (some (.string ⟨#[]⟩), 1, 16) := by kernel_rfl
theorem own_apart {w : World} {e1 e2 : TypeId} {s1 s2 n1 n2 k1 k2 : Nat} {v1 v2 : Value} {x1 x2 : List Value} (h1 : Own w e1 s1 v1 n1 x1 k1) (h2 : Own w e2 s2 v2 n2 x2 k2) (hne : e1 ≠ e2) (g : Nat) (hg1 : v1.ownBlock = some g) (hg2 : v2.ownBlock = some g) : False := by
  rcases h1.2 with ⟨rfl, _⟩ | ⟨g1, o1, c1, u1, z1, rfl, b1, _⟩
  · simp [Value.ownBlock] at hg1
  · rcases h2.2 with ⟨rfl, _⟩ | ⟨g2, o2, c2, u2, z2, rfl, b2, _⟩
    · simp [Value.ownBlock] at hg2
    · simp [Value.ownBlock] at hg1 hg2
      subst hg1 hg2
      rw [b1] at b2
      injection b2 with b2
      injection b2 with _ b2 _
      exact hne b2
theorem none_chg {S : Nat → Prop} {a b c : World} (h : a.grownBy b none) (hc : Chg S b c) (hn : ∀ k, k < a.heap.size → ¬ S k) : a.grownBy c none :=
  ((Chg.of_grown (S := S) h (fun k hk => by cases hk)).trans hc (fun _ _ h => h)).grown hn

/-- What holds at a round's head: the boxed env, and the texts so far. -/
structure OutAt (w W : World) (b : Nat) (v : Value) (vs : List V) (u : Value) (ss : List (List UInt8)) : Prop where
  env : EnvAt W b v vs
  own : Own W 9 1 u ss.length (ss.map sv) 0
  new : ∀ g, u.ownBlock = some g → w.heap.size ≤ g
  gr : w.grownBy W none
theorem OutAt.grown {w W W' : World} {b : Nat} {v u : Value} {vs : List V} {ss : List (List UInt8)} (h : OutAt w W b v vs u ss) (hg : W.grownBy W' none) : OutAt w W' b v vs u ss := ⟨h.env.grown hg, h.own.none_ hg, h.new, none_trans h.gr hg⟩
theorem OutAt.drewN {w W : World} {b : Nat} {v u : Value} {vs : List V} {ss : List (List UInt8)} (h : OutAt w W b v vs u ss) (n : Nat) : OutAt w (W.drewN n) b v vs u ss := ⟨⟨h.env.blk.drewN n, h.env.own⟩, h.own, h.new, only_drewN h.gr n⟩
theorem OutAt.app {w W W' : World} {b : Nat} {v u u' : Value} {vs : List V} {ss : List (List UInt8)} {s : List UInt8} (h : OutAt w W b v vs u ss) (ho : Own W' 9 1 u' (ss.length + 1) (ss.map sv ++ [sv s]) 0) (hc : Chg (fun g => u.ownBlock = some g) W W')
    (hn : ∀ g, u'.ownBlock = some g → u.ownBlock = some g ∨ W.heap.size ≤ g) : OutAt w W' b v vs u' (ss ++ [s]) :=
  ⟨⟨Blk.chg h.env.blk hc (fun e => own_ne h.own h.env.blk (by decide) e), h.env.own.chg hc (fun g hg e => own_apart h.env.own h.own (by decide) g hg e)⟩, by rw [List.length_append, List.map_append]; exact ho,
    fun g hg => (hn g hg).elim (h.new g) (fun h2 => Nat.le_trans h.gr.size h2), none_chg h.gr hc (fun k hk e => by have := h.new k e; omega)⟩
theorem OutAt.start {w : World} {v : Value} {vs : List V} (ho : Own w 35 4 v vs.length (vcs vs) 0) : OutAt w (w.alloc (.cells #[v, .slice none 0 0, .string ⟨#[]⟩] 27)) w.heap.size v vs (.slice none 0 0) [] :=
  ⟨⟨Blk.new w 27 _, ho.alloc _⟩, Own.nil _ _ _ _, fun g hg => (by cases hg), only_alloc (only_refl w none) _⟩
theorem srcS (W : World) (b : Nat) (s : List UInt8) (hb : W.heap.size = b) : Src Tryd.prog 1 22 (.slice (some ⟨b, 0, none⟩) 1 1) 1 [sv s] (W.alloc (.cells #[.string ⟨s.toArray⟩] 9)) := by
  subst hb
  exact Own.src (P := Tryd.prog) (tx := 22) (e' := 9) (n := 1) (xs := [sv s]) (k := 0) (e := 9) ⟨rfl, .inr ⟨W.heap.size, 0, 1, _, (0, 0), rfl, Blk.new W 9 _, Nat.le_refl _, Nat.le_refl _, by unfold maxLen; omega, by show 0 + 1 * 1 ≤ 1; omega, fun j hj => (by (have h0 : j = 0 := by omega); subst h0; rfl)⟩⟩ (by kernel_rfl) (by intro u hu; simp at hu; subst hu; rfl)
theorem eq_cat (a b : List UInt8) : (ByteArray.mk a.toArray ++ ByteArray.mk #[61]) ++ ByteArray.mk b.toArray = ⟨(a ++ [61] ++ b).toArray⟩ := by
  apply ByteArray.ext
  simp
/-- The names are no longer than memory. -/
def NM (vs : List V) : Prop := ∀ a ∈ vs, a.n.length ≤ 140737488355328

set_option maxHeartbeats 4000000 in
theorem out_any (vs : List V) (v : Value) (w : World) (hw : WF vs) (hnm : NM vs) (ho : Own w 35 4 v vs.length (vcs vs) 0) :
    Calls Tryd.prog 18 #[envV v] w (LsPost w (outF vs)) := by
  have hl := hw.len
  have HW := hide hw
  have HNM := hide hnm
  have HI0 := hide (OutAt.start ho)
  obtain ⟨a, cap, rfl, _, _⟩ := ho.form
  clear hw hnm ho
  unfold envV
  go_enter Tryd.func18, Tryd.ntmps18
  obtain ⟨d0, d1, d2⟩ := res27 HI0.out.env.blk
  have lb := Blk.lt HI0.out.env.blk
  go_wp2_with fail
  go_loopw [3, 9] (fun v3 v9 wr => ∃ k : Nat, v9 = .int .i64 k ∧ k ≤ vs.length ∧ OutAt w wr w.heap.size (.slice a vs.length cap) vs v3 (outF (vs.take k))) (fun _ v9 _ => vs.length - (intOf v9).toNat)
  case atStart => exact ⟨0, rfl, Nat.zero_le _, HI0.out⟩
  case round =>
    obtain ⟨k, rfl, hk, hI⟩ := hrel
    have hol := out_len (vs.take k)
    rw [List.length_take] at hol
    obtain ⟨O, hO⟩ : ∃ O, outF (vs.take k) = O := ⟨_, rfl⟩
    rw [hO] at hI hol
    have HOO := hide hO
    clear hO
    have HI := hide hI
    obtain ⟨av, cv, rfl, _, _⟩ := hI.own.form
    clear hI d0 d1 d2 lb
    obtain ⟨d0, d1, d2⟩ := res27 HI.out.env.blk
    have lb := Blk.lt HI.out.env.blk
    by_cases hlt : k < vs.length
    · have q0 : decide ((k : Int) < (vs.length : Int)) = true := decide_eq_true (by omega)
      have hib : (0 : Int) ≤ k ∧ (k : Int) < (vs.length : Int) := by omega
      obtain ⟨g, og, kg, hv1, _, hg1, hcs⟩ := v_cells HI.out.env.own (by omega)
      injection hv1 with hv1 _ hv1'
      subst hv1
      clear hv1'
      obtain ⟨c0, c1, c2, c3⟩ := hcs k hlt
      have HVL := hide (HW.out.vl _ (List.getElem_mem hlt))
      have HNN := hide (HNM.out _ (List.getElem_mem hlt))
      have HTK := hide (show outF (vs.take (k + 1)) = if (vs[k]).x = true then outF (vs.take k) ++ [eqT vs[k]] else outF (vs.take k) by rw [List.take_succ_eq_append_getElem hlt, out_snoc])
      obtain ⟨x, hx⟩ : ∃ x, vs[k] = x := ⟨_, rfl⟩
      rw [hx] at c0 c1 c2 c3 HVL HNN HTK
      clear hcs hx
      obtain ⟨xn, xv, xx, xr⟩ := x
      unfold eqT at HTK
      simp only [] at c0 c1 c2 c3 HVL HNN HTK
      have hn1 := sz xn
      have hv1 := sz xv
      have hb1 : xn.length ≤ 140737488355328 := HNN.out
      have hb2 : xv.length ≤ 1024 := HVL.out
      have HCT := hide (eq_cat xn xv)
      rw [HOO.out] at HTK
      obtain ⟨E, hE⟩ : ∃ E, xn ++ [61] ++ xv = E := ⟨_, rfl⟩
      rw [hE] at HCT HTK
      clear hE
      cases xx with
      | true =>
        have HTK := hide (HTK.out.trans (if_pos rfl))
        have hsz1 : (ByteArray.mk xn.toArray ++ ByteArray.mk #[61]).size = xn.length + 1 := by simp [ByteArray.size]
        have hI2 := HI.out.grown (only_alloc (only_refl _ none) (.cells #[.string ⟨xn.toArray⟩, .string ⟨xv.toArray⟩, .bool true, .bool xr] 35))
        have HI2 := hide hI2
        clear hI2
        go_wp2_with (first | (refine wpList_concat ⟨xn.toArray⟩ ⟨#[61]⟩ rfl rfl (by rw [hn1]; show _ + 1 ≤ _; omega) ?_) | (refine wpList_concat (⟨xn.toArray⟩ ++ ⟨#[61]⟩) ⟨xv.toArray⟩ rfl rfl (by rw [hsz1, hv1]; omega) ?_; rw [HCT.out]) | (at_builtin; go_loud (refine wpList_appAt 9 (.string ⟨#[]⟩) 1 16 Tryd.underlying22 info9 rfl (.slice av O.length cv) O.length (O.map sv) 0 _ 1 [sv E] rfl rfl (Own.alloc HI2.out.own _) (by omega) (srcS _ _ E (World.size_alloc _ _)) (by unfold maxLen; omega) (by omega) ?_; intro vA wA ho hc hn _; (have HIA := hide ((HI2.out.grown (only_alloc (only_refl _ none) _)).app ho hc hn); clear ho hc hn))))
        go_roundw
        case rel => exact ⟨k + 1, by go_num, by omega, by rw [HTK.out]; exact HIA.out⟩
        case measure => simp [intOf]; omega
      | false =>
        have HTK := hide (HTK.out.trans (if_neg (by decide)))
        go_wp2_with fail
        go_roundw
        case rel => exact ⟨k + 1, by go_num, by omega, by rw [HTK.out]; exact HI.out.grown (only_alloc (only_refl _ none) _)⟩
        case measure => simp [intOf]; omega
    · obtain rfl : k = vs.length := by omega
      have q0 : decide ((vs.length : Int) < (vs.length : Int)) = false := decide_eq_false (by omega)
      rw [List.take_length] at HOO
      go_wp2_with fail
      go_ret
      exact ⟨.slice av O.length cv, rfl, by rw [HOO.out]; exact HI.out.own, HI.out.gr⟩

end Go.Proofs.YtdcfpklohleoiaaDoor
