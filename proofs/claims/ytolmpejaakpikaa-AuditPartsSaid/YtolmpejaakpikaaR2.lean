/- The walk of the second law. -/
import Derived.Test.YtolmpejaakpikaaM
import Derived.Deep.Upon
set_option linter.all false
namespace Go.Proofs.Ytolmpejaakpikaa
open Go.RowKit Go.Maps
set_option maxRecDepth 100000

theorem info40b : (Try.prog.info? 40).map (fun i => (i.zero, i.size, i.bytes)) = some (some (.agg Z40), 45, 408) := by kernel_rfl
def flat (es : List Ev) : List Value := es.flatMap fun e => e.cells.toList
theorem cl45 (e : Ev) : e.cells.toList.length = 45 := rfl
theorem flat_len (es : List Ev) : (flat es).length = es.length * 45 := by
  induction es with
  | nil => rfl
  | cons e r ih =>
    have h : flat (e :: r) = e.cells.toList ++ flat r := by simp [flat]
    rw [h, List.length_append, ih, cl45, List.length_cons]
    omega
theorem flat_app (l m : List Ev) : flat (l ++ m) = flat l ++ flat m := by simp [flat]
theorem flat_get (es : List Ev) : ∀ (n j : Nat) (hn : n < es.length) (_ : j < 45), (flat es)[n * 45 + j]? = (es[n]).cells.toList[j]? := by
  induction es with
  | nil => intro n j hn; simp at hn
  | cons e r ih =>
    intro n j hn hj
    have h : flat (e :: r) = e.cells.toList ++ flat r := by simp [flat]
    have hl := cl45 e
    cases n with
    | zero => rw [h, Nat.zero_mul, Nat.zero_add, List.getElem?_append_left (by omega)]; rfl
    | succ n =>
      rw [h, List.getElem?_append_right (by omega), hl, show (n + 1) * 45 + j - 45 = n * 45 + j by omega]
      exact ih n j (by simpa using hn) hj
theorem flat_one {es : List Ev} (h : ∀ e ∈ es, GoodE e) : ∀ u ∈ flat es, u.oneCell' = true := by
  intro u hu
  obtain ⟨e, he, hue⟩ := List.mem_flatMap.1 hu
  exact Array.all_eq_true_iff_forall_mem.1 (h e he).2.2 u (by simpa using hue)
theorem evs_src {w : World} {a : Option Addr} {es : List Ev} (h : EvsAt w a es) (hg : ∀ e ∈ es, GoodE e) (cap : Nat) : Src Try.prog 45 22 (.slice a es.length cap) es.length (flat es) w := by
  rcases Nat.eq_zero_or_pos es.length with h0 | hp
  · have : es = [] := List.eq_nil_of_length_eq_zero h0
    subst this
    cases a with
    | none => exact Src.ofNil (e' := 40) w Try.underlying22 cap
    | some a => exact Src.ofSlice (e' := 40) w Try.underlying22 a 0 cap [] rfl (fun j u hu => by simp at hu) (by simp)
  · obtain ⟨g, off, rfl, hgl, _⟩ := h 0 hp
    refine Src.ofSlice (e' := 40) w Try.underlying22 _ _ cap (flat es) (flat_len es) (fun j u hu => ?_) (flat_one hg)
    have hj : j < es.length * 45 := by
      rw [← flat_len]
      exact (List.getElem?_eq_some_iff.1 hu).1
    have hn : j / 45 < es.length := by omega
    obtain ⟨g', off', hae, _, hr⟩ := h (j / 45) hn
    injection hae with hae
    injection hae with e1 e2 _
    subst e1 e2
    rw [Addr.add_lit]
    have := flat_get es (j / 45) (j % 45) hn (Nat.mod_lt _ (by omega))
    rw [show j / 45 * 45 + j % 45 = j by omega, hu] at this
    have := hr (j % 45) u this.symm
    rw [show off + j = off + j / 45 * 45 + j % 45 by omega]
    exact this
theorem evs_own {w : World} {v : Value} {es : List Ev} {n : Nat} (h : Own w 40 45 v n (flat es) 0) (hn : n = es.length) : ∃ a cap, v = .slice a es.length cap ∧ es.length ≤ cap ∧ EvsAt w a es := by
  subst hn
  obtain ⟨a, cap, hv, hc, _⟩ := h.form
  refine ⟨a, cap, hv, hc, fun k hk => ?_⟩
  obtain ⟨g, off, cap', hv', _, _, hg, hcell⟩ := h.some_ (by omega)
  rw [hv] at hv'
  injection hv' with ha _ _
  subst ha
  refine ⟨g, off, rfl, hg, fun j u hj => ?_⟩
  have hj' : j < 45 := by
    have := (List.getElem?_eq_some_iff.1 hj).1
    rwa [cl45] at this
  rw [Nat.add_assoc, hcell _ (by omega), flat_get es k j hk hj']
  exact hj

/-! ### the plain law -/
theorem res_range : ∀ (l : List Ev) (r : RS) (k : Int), res l r k = -1 ∨ (∃ j : Nat, res l r k = k + j ∧ j < l.length)
  | [], _, _ => .inl rfl
  | e :: l, r, k => by
    unfold res
    by_cases h : (stepR r e).2 = true
    · rw [if_pos h]
      rcases res_range l (stepR r e).1 (k + 1) with h1 | ⟨j, h1, h2⟩
      · exact .inl h1
      · exact .inr ⟨j + 1, by rw [h1]; omega, by simpa using h2⟩
    · rw [if_neg h]
      exact .inr ⟨0, by simp, by simp⟩
theorem res_app_none : ∀ (l m : List Ev) (r : RS) (k : Int), 0 ≤ k → res l r k = -1 → (res (l ++ m) r k = -1 ∨ ∃ j : Nat, res (l ++ m) r k = k + j ∧ l.length ≤ j)
  | [], m, r, k, _, _ => by
    rcases res_range m r k with h | ⟨j, h, _⟩
    · exact .inl h
    · exact .inr ⟨j, h, Nat.zero_le _⟩
  | e :: l, m, r, k, hk, h => by
    rw [List.cons_append]
    unfold res at h ⊢
    by_cases hs : (stepR r e).2 = true
    · rw [if_pos hs] at h ⊢
      rcases res_app_none l m (stepR r e).1 (k + 1) (by omega) h with h1 | ⟨j, h1, h2⟩
      · exact .inl h1
      · exact .inr ⟨j + 1, by rw [h1]; omega, by simpa using h2⟩
    · rw [if_neg hs] at h
      omega
theorem res_app_some : ∀ (l m : List Ev) (r : RS) (k : Int), res l r k ≠ -1 → res (l ++ m) r k = res l r k
  | [], _, _, _, h => absurd rfl h
  | e :: l, m, r, k, h => by
    rw [List.cons_append]
    unfold res at h ⊢
    by_cases hs : (stepR r e).2 = true
    · rw [if_pos hs] at h ⊢
      rw [if_pos hs]
      exact res_app_some l m (stepR r e).1 (k + 1) h
    · rw [if_neg hs, if_neg hs]
theorem res_take : ∀ (l : List Ev) (r : RS) (k : Int) (j : Nat), 0 ≤ k → res l r k = k + j → res (l.take j) r k = -1 ∧ res (l.take (j + 1)) r k = k + j
  | [], _, k, j, hk, h => by
    have : (-1 : Int) = k + j := h
    omega
  | e :: l, r, k, j, hk, h => by
    have h' := h
    unfold res at h
    by_cases hs : (stepR r e).2 = true
    · rw [if_pos hs] at h
      rcases res_range l (stepR r e).1 (k + 1) with h1 | ⟨i, h1, h2⟩
      · omega
      · obtain ⟨j, rfl⟩ : ∃ j', j = j' + 1 := ⟨j - 1, by omega⟩
        obtain ⟨h3, h4⟩ := res_take l (stepR r e).1 (k + 1) j (by omega) (by rw [h]; omega)
        constructor
        · rw [List.take_succ_cons]
          unfold res
          rw [if_pos hs, h3]
        · rw [List.take_succ_cons]
          unfold res
          rw [if_pos hs, h4]
          omega
    · rw [if_neg hs] at h
      have : j = 0 := by omega
      subst this
      refine ⟨rfl, ?_⟩
      rw [List.take_succ_cons, List.take_zero]
      unfold res
      rw [if_neg hs]
      omega

/-! ### events put together -/
structure AppSt (w2 w : World) (v : Value) (n : Nat) (xs : List Value) : Prop where
  own : Own w 40 45 v n xs 0
  chg : Chg nobody w2 w
  new : ∀ b, v.ownBlock = some b → w2.heap.size ≤ b
theorem AppSt.start (w : World) : AppSt w (w.alloc (.cells #[] 40)) (.slice (some ⟨w.heap.size, 0, none⟩) 0 0) 0 [] :=
  ⟨Own.made w #[] 40 45 0 0 rfl (by unfold maxLen; omega), (Chg.refl nobody w).alloc _, fun b hb => by simp [Value.ownBlock] at hb; omega⟩
theorem wpList_appEv {ops : Array Oper} {rest : List Oper} {a : Act} {w2 w : World} {Q : Exit → Act → World → Prop} {d : Option Tmp} {t : TypeId} {pos : String} {af : Array Edge} {s x : Operand} {v : Value} {n : Nat} {xs : List Value} (ht : t = 22)
    (h : AppSt w2 w v n xs) {a1 : Option Addr} {es : List Ev} {cap nl : Nat} (hnl : es.length = nl) (he : EvsAt w2 a1 es) (hg : ∀ e ∈ es, GoodE e) (hs : a.eval s = v) (hx : a.eval x = .slice a1 nl cap) (hb : n + nl ≤ 1000)
    (hK : ∀ v' w', AppSt w2 w' v' (n + nl) (xs ++ flat es) → wpList Try.prog ops Q rest (a.put d v') w') :
    wpList Try.prog ops Q (⟨d, .call { callee := .builtin .append, args := #[s, x], argTypes := #[22, 22] }, t, pos, af, none⟩ :: rest) a w := by
  subst ht hnl
  refine wpList_appAt 40 (.agg Z40) 45 408 Try.underlying22 info40b rfl v n xs 0 _ es.length (flat es) hs hx h.own (by omega) (evs_src (he.chg h.chg (fun _ _ _ h => h)) hg cap) (by unfold maxLen; omega) (by omega) ?_
  intro v' w' ho hc hn _
  refine hK v' w' ⟨ho, h.chg.trans hc (fun i hi hb => by have := h.new i hb; omega), fun b hb => ?_⟩
  rcases hn b hb with h1 | h1
  · exact h.new b h1
  · exact Nat.le_trans h.chg.size h1

set_option maxHeartbeats 2000000 in
theorem parts_uu_n (a a1 : Option Addr) (cap cap1 : Nat) (el em : List Ev) (w : World) (h : EvsAt w a el) (h1 : EvsAt w a1 em) (hcap : el.length ≤ cap) (hcm : cap ≤ maxLen) (hcap1 : em.length ≤ cap1) (hcm1 : cap1 ≤ maxLen) (hw : ∀ e ∈ el, GoodE e) (hw1 : ∀ e ∈ em, GoodE e) (c1 : el.length ≤ 200) (c2 : em.length ≤ 200) (hres : res el r0 0 = -1) :
    Calls Try.prog 4 #[.slice a el.length cap, .slice a1 em.length cap1] w fun x w' => x = .returned (.bool true) ∧ w.grownBy w' none := by
  have hll : el.length = el.length := rfl
  have H := hide h
  have Hw := hide hw
  have hml : em.length = em.length := rfl
  have H1 := hide h1
  have Hw1 := hide hw1
  have hcm' : cap ≤ 9223372036854775807 := by unfold maxLen at hcm; omega
  have hcm1' : cap1 ≤ 9223372036854775807 := by unfold maxLen at hcm1; omega
  have q1 : decide ((200 : Int) < (el.length : Int)) = false := by simp; omega
  have q2 : decide ((200 : Int) < (em.length : Int)) = false := by simp; omega
  have Hll := hide hll
  have Hml := hide hml
  have Hres := hide hres
  have hs := hide (shown_any w)
  have Hlb := hide (show el.length ≤ 200 ∧ el.length ≤ cap ∧ em.length ≤ 200 ∧ em.length ≤ cap1 by omega)
  clear h h1 hw hw1 hcm hcm1 hres hll hml
  go_enter Try.func4, Try.ntmps4
  go_wp2_with fail
  refine hs.out.mono ?_
  rintro x w1 ⟨rfl, hg1⟩
  have Hg1 := hide hg1
  clear hg1 hs
  go_wp2_with fail
  have hc := check_any a cap el w1 (H.out.gr Hg1.out) (by have := Hlb.out; omega) Hlb.out.2.1 Hw.out
  rw [Hres.out] at hc
  refine hc.mono ?_
  rintro x w2 ⟨rfl, hg2⟩
  have Hg2 := hide (only_trans Hg1.out hg2)
  have Happ := hide (AppSt.start w2)
  have HE := hide (H.out.gr Hg2.out)
  have HE1 := hide (H1.out.gr Hg2.out)
  clear hg2 hc
  go_wp2_with (first
    | (at_builtin; refine wpList_appEv rfl Happ.out rfl HE.out Hw.out rfl rfl (by omega) ?_; intro v1 w4 ha1; have Ha1 := hide ha1; clear ha1)
    | (at_builtin; refine wpList_appEv rfl Ha1.out rfl HE1.out Hw1.out rfl rfl (by omega) ?_; intro v2 w5 ha2; have Ha2 := hide ha2; clear ha2))
  have ho : Own w5 40 45 v2 (el.length + em.length) (flat (el ++ em)) 0 := by
    have := Ha2.out.own
    rw [List.nil_append, ← flat_app, Nat.zero_add] at this
    exact this
  have hg5 : w.grownBy w5 none := none_trans Hg2.out (Ha2.out.chg.grown (fun _ _ h => h))
  obtain ⟨a2, cap2, rfl, hcap2, hE2⟩ := evs_own ho (by have a1 : el.length = el.length := rfl; have a2 : em.length = em.length := rfl; rw [List.length_append, a1, a2])
  have Hg5 := hide hg5
  have HE2 := hide hE2
  have hlen2 : (el ++ em).length = el.length + em.length := List.length_append
  have hgood : ∀ e ∈ el ++ em, GoodE e := fun e he => (List.mem_append.1 he).elim (Hw.out e) (Hw1.out e)
  have Hgood := hide hgood
  have Hlen2 := hide hlen2
  clear ho hg5 hE2 hgood hlen2 Ha2
  have hc := check_any a2 cap2 (el ++ em) w5 HE2.out (by have := Hlb.out; have := Hlen2.out; omega) hcap2 Hgood.out
  rcases res_app_none el em r0 0 (by omega) Hres.out with hM | ⟨i, hM, hi⟩
  · rw [hM] at hc
    refine hc.mono ?_
    rintro x w6 ⟨rfl, hg6⟩
    have Hg6 := hide (none_trans Hg5.out hg6)
    clear hg6 hc hM
    go_wp2
    go_ret
    exact ⟨rfl, Hg6.out⟩
  · rw [hM, Int.zero_add] at hc
    have qm : ((i : Int) == -1) = false := by first | (simp; done) | (simp; omega)
    have qg : decide ((el.length : Int) ≤ (i : Int)) = true := by have : el.length = el.length := rfl; first | (simp; done) | (simp; omega)
    refine hc.mono ?_
    rintro x w6 ⟨rfl, hg6⟩
    have Hg6 := hide (none_trans Hg5.out hg6)
    clear hg6 hc hM
    go_wp2
    go_ret
    exact ⟨rfl, Hg6.out⟩

set_option maxHeartbeats 2000000 in
theorem parts_uu_s (a a1 : Option Addr) (cap cap1 : Nat) (el em : List Ev) (w : World) (h : EvsAt w a el) (h1 : EvsAt w a1 em) (hcap : el.length ≤ cap) (hcm : cap ≤ maxLen) (hcap1 : em.length ≤ cap1) (hcm1 : cap1 ≤ maxLen) (hw : ∀ e ∈ el, GoodE e) (hw1 : ∀ e ∈ em, GoodE e) (c1 : el.length ≤ 200) (c2 : em.length ≤ 200) (j : Nat) (hres : res el r0 0 = j) (hj : j < el.length) :
    Calls Try.prog 4 #[.slice a el.length cap, .slice a1 em.length cap1] w fun x w' => x = .returned (.bool true) ∧ w.grownBy w' none := by
  have hll : el.length = el.length := rfl
  have H := hide h
  have Hw := hide hw
  have hml : em.length = em.length := rfl
  have H1 := hide h1
  have Hw1 := hide hw1
  have hcm' : cap ≤ 9223372036854775807 := by unfold maxLen at hcm; omega
  have hcm1' : cap1 ≤ 9223372036854775807 := by unfold maxLen at hcm1; omega
  have q1 : decide ((200 : Int) < (el.length : Int)) = false := by simp; omega
  have q2 : decide ((200 : Int) < (em.length : Int)) = false := by simp; omega
  have Hll := hide hll
  have Hml := hide hml
  have Hres := hide hres
  have hs := hide (shown_any w)
  have Hlb := hide (show el.length ≤ 200 ∧ el.length ≤ cap ∧ em.length ≤ 200 ∧ em.length ≤ cap1 by omega)
  have j1 : decide ((j : Int) < (el.length : Int)) = true := by simp; omega
  have j2 : decide ((j : Int) < 0) = false := by simp
  have j3 : (0 : Int) ≤ j ∧ (j : Int) ≤ (cap : Int) := by have := Hlb.out; omega
  have j4 : (0 : Int) ≤ (j : Int) + 1 ∧ (j : Int) + 1 ≤ (cap : Int) := by have := Hlb.out; omega
  have hw9 : IntKind.i64.wrap ((j : Int) + 1) = (j : Int) + 1 := by rw [IntWalk.i64_in _ (by have := Hlb.out; omega)]
  have Hj := hide (show j < el.length by omega)
  clear hj
  clear h h1 hw hw1 hcm hcm1 hres hll hml
  go_enter Try.func4, Try.ntmps4
  go_wp2_with fail
  refine hs.out.mono ?_
  rintro x w1 ⟨rfl, hg1⟩
  have Hg1 := hide hg1
  clear hg1 hs
  go_wp2_with fail
  have hc := check_any a cap el w1 (H.out.gr Hg1.out) (by have := Hlb.out; omega) Hlb.out.2.1 Hw.out
  rw [Hres.out] at hc
  refine hc.mono ?_
  rintro x w2 ⟨rfl, hg2⟩
  have Hg2 := hide (only_trans Hg1.out hg2)
  have Happ := hide (AppSt.start w2)
  have HE := hide (H.out.gr Hg2.out)
  have HE1 := hide (H1.out.gr Hg2.out)
  clear hg2 hc
  go_wp2_with (first
    | (at_builtin; refine wpList_appEv rfl Happ.out rfl HE.out Hw.out rfl rfl (by omega) ?_; intro v1 w4 ha1; have Ha1 := hide ha1; clear ha1)
    | (at_builtin; refine wpList_appEv rfl Ha1.out rfl HE1.out Hw1.out rfl rfl (by omega) ?_; intro v2 w5 ha2; have Ha2 := hide ha2; clear ha2))
  have ho : Own w5 40 45 v2 (el.length + em.length) (flat (el ++ em)) 0 := by
    have := Ha2.out.own
    rw [List.nil_append, ← flat_app, Nat.zero_add] at this
    exact this
  have hg5 : w.grownBy w5 none := none_trans Hg2.out (Ha2.out.chg.grown (fun _ _ h => h))
  obtain ⟨a2, cap2, rfl, hcap2, hE2⟩ := evs_own ho (by have a1 : el.length = el.length := rfl; have a2 : em.length = em.length := rfl; rw [List.length_append, a1, a2])
  have Hg5 := hide hg5
  have HE2 := hide hE2
  have hlen2 : (el ++ em).length = el.length + em.length := List.length_append
  have hgood : ∀ e ∈ el ++ em, GoodE e := fun e he => (List.mem_append.1 he).elim (Hw.out e) (Hw1.out e)
  have Hgood := hide hgood
  have Hlen2 := hide hlen2
  clear ho hg5 hE2 hgood hlen2 Ha2
  obtain ⟨ht1, ht2⟩ := res_take el r0 0 j (by omega) (by rw [Hres.out]; omega)
  rw [Int.zero_add] at ht2
  have hc := check_any a cap (el.take j) w5 ((H.out.gr Hg5.out).take j) (by rw [List.length_take]; have := Hlb.out; omega) (by rw [List.length_take]; have := Hlb.out; omega) (fun e he => Hw.out e (List.mem_of_mem_take he))
  rw [ht1, show (el.take j).length = j by rw [List.length_take]; have := Hj.out; omega] at hc
  have Ht2 := hide ht2
  refine hc.mono ?_
  rintro x w6 ⟨rfl, hg6⟩
  have Hg6 := hide (none_trans Hg5.out hg6)
  clear hc ht1 ht2
  have Hg56 := hide hg6
  clear hg6
  go_wp2_with fail
  have hc := check_any a cap (el.take (j + 1)) w6 ((H.out.gr Hg6.out).take (j + 1)) (by rw [List.length_take]; have := Hlb.out; omega) (by rw [List.length_take]; have := Hlb.out; omega) (fun e he => Hw.out e (List.mem_of_mem_take he))
  rw [Ht2.out, show (el.take (j + 1)).length = j + 1 by rw [List.length_take]; have := Hj.out; omega] at hc
  refine hc.mono ?_
  rintro x w7 ⟨rfl, hg7⟩
  have Hg7 := hide (none_trans Hg6.out hg7)
  have Hg57 := hide (none_trans Hg56.out hg7)
  clear hc hg7
  go_wp2_with fail
  have hc := check_any a2 cap2 (el ++ em) w7 (HE2.out.gr Hg57.out) (by have := Hlb.out; have := Hlen2.out; omega) hcap2 Hgood.out
  rw [res_app_some el em r0 0 (by rw [Hres.out]; omega), Hres.out, List.length_append] at hc
  refine hc.mono ?_
  rintro x w8 ⟨rfl, hg8⟩
  have Hg8 := hide (none_trans Hg7.out hg8)
  clear hc hg8
  go_wp2
  go_ret
  exact ⟨rfl, Hg8.out⟩

set_option maxHeartbeats 2000000 in
theorem parts_uc_n (a a1 : Option Addr) (cap cap1 : Nat) (el em : List Ev) (w : World) (h : EvsAt w a el) (h1 : EvsAt w a1 em) (hcap : el.length ≤ cap) (hcm : cap ≤ maxLen) (hcap1 : em.length ≤ cap1) (hcm1 : cap1 ≤ maxLen) (hw : ∀ e ∈ el, GoodE e) (hw1 : ∀ e ∈ em, GoodE e) (c1 : el.length ≤ 200) (c2 : 200 < em.length) (hres : res el r0 0 = -1) :
    Calls Try.prog 4 #[.slice a el.length cap, .slice a1 em.length cap1] w fun x w' => x = .returned (.bool true) ∧ w.grownBy w' none := by
  have hll : el.length = el.length := rfl
  have H := hide h
  have Hw := hide hw
  obtain ⟨m, hm⟩ : ∃ m, em.take 200 = m := ⟨_, rfl⟩
  have hml : m.length = 200 := by rw [← hm]; simp; omega
  have H1 := hide (show EvsAt w a1 m by rw [← hm]; exact h1.take 200)
  have Hw1 := hide (show ∀ e ∈ m, GoodE e by rw [← hm]; exact fun e he => hw1 e (List.mem_of_mem_take he))
  clear hm
  have hcm' : cap ≤ 9223372036854775807 := by unfold maxLen at hcm; omega
  have hcm1' : cap1 ≤ 9223372036854775807 := by unfold maxLen at hcm1; omega
  have q1 : decide ((200 : Int) < (el.length : Int)) = false := by simp; omega
  have q2 : decide ((200 : Int) < (em.length : Int)) = true := by simp; omega
  have Hll := hide hll
  have Hml := hide hml
  have Hres := hide hres
  have hs := hide (shown_any w)
  have Hlb := hide (show el.length ≤ 200 ∧ el.length ≤ cap ∧ m.length ≤ 200 ∧ m.length ≤ cap1 by omega)
  clear h h1 hw hw1 hcm hcm1 hres hll hml
  go_enter Try.func4, Try.ntmps4
  go_wp2_with fail
  refine hs.out.mono ?_
  rintro x w1 ⟨rfl, hg1⟩
  have Hg1 := hide hg1
  clear hg1 hs
  go_wp2_with fail
  have hc := check_any a cap el w1 (H.out.gr Hg1.out) (by have := Hlb.out; omega) Hlb.out.2.1 Hw.out
  rw [Hres.out] at hc
  refine hc.mono ?_
  rintro x w2 ⟨rfl, hg2⟩
  have Hg2 := hide (only_trans Hg1.out hg2)
  have Happ := hide (AppSt.start w2)
  have HE := hide (H.out.gr Hg2.out)
  have HE1 := hide (H1.out.gr Hg2.out)
  clear hg2 hc
  go_wp2_with (first
    | (at_builtin; refine wpList_appEv rfl Happ.out rfl HE.out Hw.out rfl rfl (by omega) ?_; intro v1 w4 ha1; have Ha1 := hide ha1; clear ha1)
    | (at_builtin; refine wpList_appEv rfl Ha1.out Hml.out HE1.out Hw1.out rfl rfl (by omega) ?_; intro v2 w5 ha2; have Ha2 := hide ha2; clear ha2))
  have ho : Own w5 40 45 v2 (el.length + 200) (flat (el ++ m)) 0 := by
    have := Ha2.out.own
    rw [List.nil_append, ← flat_app, Nat.zero_add] at this
    exact this
  have hg5 : w.grownBy w5 none := none_trans Hg2.out (Ha2.out.chg.grown (fun _ _ h => h))
  obtain ⟨a2, cap2, rfl, hcap2, hE2⟩ := evs_own ho (by have a1 : el.length = el.length := rfl; have a2 : m.length = 200 := Hml.out; rw [List.length_append, a1, a2])
  have Hg5 := hide hg5
  have HE2 := hide hE2
  have hlen2 : (el ++ m).length = el.length + m.length := List.length_append
  have hgood : ∀ e ∈ el ++ m, GoodE e := fun e he => (List.mem_append.1 he).elim (Hw.out e) (Hw1.out e)
  have Hgood := hide hgood
  have Hlen2 := hide hlen2
  clear ho hg5 hE2 hgood hlen2 Ha2
  have hc := check_any a2 cap2 (el ++ m) w5 HE2.out (by have := Hlb.out; have := Hlen2.out; omega) hcap2 Hgood.out
  rcases res_app_none el m r0 0 (by omega) Hres.out with hM | ⟨i, hM, hi⟩
  · rw [hM] at hc
    refine hc.mono ?_
    rintro x w6 ⟨rfl, hg6⟩
    have Hg6 := hide (none_trans Hg5.out hg6)
    clear hg6 hc hM
    go_wp2
    go_ret
    exact ⟨rfl, Hg6.out⟩
  · rw [hM, Int.zero_add] at hc
    have qm : ((i : Int) == -1) = false := by first | (simp; done) | (simp; omega)
    have qg : decide ((el.length : Int) ≤ (i : Int)) = true := by have : el.length = el.length := rfl; first | (simp; done) | (simp; omega)
    refine hc.mono ?_
    rintro x w6 ⟨rfl, hg6⟩
    have Hg6 := hide (none_trans Hg5.out hg6)
    clear hg6 hc hM
    go_wp2
    go_ret
    exact ⟨rfl, Hg6.out⟩

set_option maxHeartbeats 2000000 in
theorem parts_uc_s (a a1 : Option Addr) (cap cap1 : Nat) (el em : List Ev) (w : World) (h : EvsAt w a el) (h1 : EvsAt w a1 em) (hcap : el.length ≤ cap) (hcm : cap ≤ maxLen) (hcap1 : em.length ≤ cap1) (hcm1 : cap1 ≤ maxLen) (hw : ∀ e ∈ el, GoodE e) (hw1 : ∀ e ∈ em, GoodE e) (c1 : el.length ≤ 200) (c2 : 200 < em.length) (j : Nat) (hres : res el r0 0 = j) (hj : j < el.length) :
    Calls Try.prog 4 #[.slice a el.length cap, .slice a1 em.length cap1] w fun x w' => x = .returned (.bool true) ∧ w.grownBy w' none := by
  have hll : el.length = el.length := rfl
  have H := hide h
  have Hw := hide hw
  obtain ⟨m, hm⟩ : ∃ m, em.take 200 = m := ⟨_, rfl⟩
  have hml : m.length = 200 := by rw [← hm]; simp; omega
  have H1 := hide (show EvsAt w a1 m by rw [← hm]; exact h1.take 200)
  have Hw1 := hide (show ∀ e ∈ m, GoodE e by rw [← hm]; exact fun e he => hw1 e (List.mem_of_mem_take he))
  clear hm
  have hcm' : cap ≤ 9223372036854775807 := by unfold maxLen at hcm; omega
  have hcm1' : cap1 ≤ 9223372036854775807 := by unfold maxLen at hcm1; omega
  have q1 : decide ((200 : Int) < (el.length : Int)) = false := by simp; omega
  have q2 : decide ((200 : Int) < (em.length : Int)) = true := by simp; omega
  have Hll := hide hll
  have Hml := hide hml
  have Hres := hide hres
  have hs := hide (shown_any w)
  have Hlb := hide (show el.length ≤ 200 ∧ el.length ≤ cap ∧ m.length ≤ 200 ∧ m.length ≤ cap1 by omega)
  have j1 : decide ((j : Int) < (el.length : Int)) = true := by simp; omega
  have j2 : decide ((j : Int) < 0) = false := by simp
  have j3 : (0 : Int) ≤ j ∧ (j : Int) ≤ (cap : Int) := by have := Hlb.out; omega
  have j4 : (0 : Int) ≤ (j : Int) + 1 ∧ (j : Int) + 1 ≤ (cap : Int) := by have := Hlb.out; omega
  have hw9 : IntKind.i64.wrap ((j : Int) + 1) = (j : Int) + 1 := by rw [IntWalk.i64_in _ (by have := Hlb.out; omega)]
  have Hj := hide (show j < el.length by omega)
  clear hj
  clear h h1 hw hw1 hcm hcm1 hres hll hml
  go_enter Try.func4, Try.ntmps4
  go_wp2_with fail
  refine hs.out.mono ?_
  rintro x w1 ⟨rfl, hg1⟩
  have Hg1 := hide hg1
  clear hg1 hs
  go_wp2_with fail
  have hc := check_any a cap el w1 (H.out.gr Hg1.out) (by have := Hlb.out; omega) Hlb.out.2.1 Hw.out
  rw [Hres.out] at hc
  refine hc.mono ?_
  rintro x w2 ⟨rfl, hg2⟩
  have Hg2 := hide (only_trans Hg1.out hg2)
  have Happ := hide (AppSt.start w2)
  have HE := hide (H.out.gr Hg2.out)
  have HE1 := hide (H1.out.gr Hg2.out)
  clear hg2 hc
  go_wp2_with (first
    | (at_builtin; refine wpList_appEv rfl Happ.out rfl HE.out Hw.out rfl rfl (by omega) ?_; intro v1 w4 ha1; have Ha1 := hide ha1; clear ha1)
    | (at_builtin; refine wpList_appEv rfl Ha1.out Hml.out HE1.out Hw1.out rfl rfl (by omega) ?_; intro v2 w5 ha2; have Ha2 := hide ha2; clear ha2))
  have ho : Own w5 40 45 v2 (el.length + 200) (flat (el ++ m)) 0 := by
    have := Ha2.out.own
    rw [List.nil_append, ← flat_app, Nat.zero_add] at this
    exact this
  have hg5 : w.grownBy w5 none := none_trans Hg2.out (Ha2.out.chg.grown (fun _ _ h => h))
  obtain ⟨a2, cap2, rfl, hcap2, hE2⟩ := evs_own ho (by have a1 : el.length = el.length := rfl; have a2 : m.length = 200 := Hml.out; rw [List.length_append, a1, a2])
  have Hg5 := hide hg5
  have HE2 := hide hE2
  have hlen2 : (el ++ m).length = el.length + m.length := List.length_append
  have hgood : ∀ e ∈ el ++ m, GoodE e := fun e he => (List.mem_append.1 he).elim (Hw.out e) (Hw1.out e)
  have Hgood := hide hgood
  have Hlen2 := hide hlen2
  clear ho hg5 hE2 hgood hlen2 Ha2
  obtain ⟨ht1, ht2⟩ := res_take el r0 0 j (by omega) (by rw [Hres.out]; omega)
  rw [Int.zero_add] at ht2
  have hc := check_any a cap (el.take j) w5 ((H.out.gr Hg5.out).take j) (by rw [List.length_take]; have := Hlb.out; omega) (by rw [List.length_take]; have := Hlb.out; omega) (fun e he => Hw.out e (List.mem_of_mem_take he))
  rw [ht1, show (el.take j).length = j by rw [List.length_take]; have := Hj.out; omega] at hc
  have Ht2 := hide ht2
  refine hc.mono ?_
  rintro x w6 ⟨rfl, hg6⟩
  have Hg6 := hide (none_trans Hg5.out hg6)
  clear hc ht1 ht2
  have Hg56 := hide hg6
  clear hg6
  go_wp2_with fail
  have hc := check_any a cap (el.take (j + 1)) w6 ((H.out.gr Hg6.out).take (j + 1)) (by rw [List.length_take]; have := Hlb.out; omega) (by rw [List.length_take]; have := Hlb.out; omega) (fun e he => Hw.out e (List.mem_of_mem_take he))
  rw [Ht2.out, show (el.take (j + 1)).length = j + 1 by rw [List.length_take]; have := Hj.out; omega] at hc
  refine hc.mono ?_
  rintro x w7 ⟨rfl, hg7⟩
  have Hg7 := hide (none_trans Hg6.out hg7)
  have Hg57 := hide (none_trans Hg56.out hg7)
  clear hc hg7
  go_wp2_with fail
  have hc := check_any a2 cap2 (el ++ m) w7 (HE2.out.gr Hg57.out) (by have := Hlb.out; have := Hlen2.out; omega) hcap2 Hgood.out
  rw [res_app_some el m r0 0 (by rw [Hres.out]; omega), Hres.out, List.length_append] at hc
  refine hc.mono ?_
  rintro x w8 ⟨rfl, hg8⟩
  have Hg8 := hide (none_trans Hg7.out hg8)
  clear hc hg8
  go_wp2
  go_ret
  exact ⟨rfl, Hg8.out⟩

set_option maxHeartbeats 2000000 in
theorem parts_cu_n (a a1 : Option Addr) (cap cap1 : Nat) (el em : List Ev) (w : World) (h : EvsAt w a el) (h1 : EvsAt w a1 em) (hcap : el.length ≤ cap) (hcm : cap ≤ maxLen) (hcap1 : em.length ≤ cap1) (hcm1 : cap1 ≤ maxLen) (hw : ∀ e ∈ el, GoodE e) (hw1 : ∀ e ∈ em, GoodE e) (c1 : 200 < el.length) (c2 : em.length ≤ 200) (hres : res (el.take 200) r0 0 = -1) :
    Calls Try.prog 4 #[.slice a el.length cap, .slice a1 em.length cap1] w fun x w' => x = .returned (.bool true) ∧ w.grownBy w' none := by
  obtain ⟨l, hl⟩ : ∃ l, el.take 200 = l := ⟨_, rfl⟩
  have hll : l.length = 200 := by rw [← hl]; simp; omega
  have H := hide (show EvsAt w a l by rw [← hl]; exact h.take 200)
  have Hw := hide (show ∀ e ∈ l, GoodE e by rw [← hl]; exact fun e he => hw e (List.mem_of_mem_take he))
  rw [hl] at hres
  clear hl
  have hml : em.length = em.length := rfl
  have H1 := hide h1
  have Hw1 := hide hw1
  have hcm' : cap ≤ 9223372036854775807 := by unfold maxLen at hcm; omega
  have hcm1' : cap1 ≤ 9223372036854775807 := by unfold maxLen at hcm1; omega
  have q1 : decide ((200 : Int) < (el.length : Int)) = true := by simp; omega
  have q2 : decide ((200 : Int) < (em.length : Int)) = false := by simp; omega
  have Hll := hide hll
  have Hml := hide hml
  have Hres := hide hres
  have hs := hide (shown_any w)
  have Hlb := hide (show l.length ≤ 200 ∧ l.length ≤ cap ∧ em.length ≤ 200 ∧ em.length ≤ cap1 by omega)
  clear h h1 hw hw1 hcm hcm1 hres hll hml
  go_enter Try.func4, Try.ntmps4
  go_wp2_with fail
  refine hs.out.mono ?_
  rintro x w1 ⟨rfl, hg1⟩
  have Hg1 := hide hg1
  clear hg1 hs
  go_wp2_with fail
  have hc := check_any a cap l w1 (H.out.gr Hg1.out) (by have := Hlb.out; omega) Hlb.out.2.1 Hw.out
  rw [Hres.out, Hll.out] at hc
  refine hc.mono ?_
  rintro x w2 ⟨rfl, hg2⟩
  have Hg2 := hide (only_trans Hg1.out hg2)
  have Happ := hide (AppSt.start w2)
  have HE := hide (H.out.gr Hg2.out)
  have HE1 := hide (H1.out.gr Hg2.out)
  clear hg2 hc
  go_wp2_with (first
    | (at_builtin; refine wpList_appEv rfl Happ.out Hll.out HE.out Hw.out rfl rfl (by omega) ?_; intro v1 w4 ha1; have Ha1 := hide ha1; clear ha1)
    | (at_builtin; refine wpList_appEv rfl Ha1.out rfl HE1.out Hw1.out rfl rfl (by omega) ?_; intro v2 w5 ha2; have Ha2 := hide ha2; clear ha2))
  have ho : Own w5 40 45 v2 (200 + em.length) (flat (l ++ em)) 0 := by
    have := Ha2.out.own
    rw [List.nil_append, ← flat_app, Nat.zero_add] at this
    exact this
  have hg5 : w.grownBy w5 none := none_trans Hg2.out (Ha2.out.chg.grown (fun _ _ h => h))
  obtain ⟨a2, cap2, rfl, hcap2, hE2⟩ := evs_own ho (by have a1 : l.length = 200 := Hll.out; have a2 : em.length = em.length := rfl; rw [List.length_append, a1, a2])
  have Hg5 := hide hg5
  have HE2 := hide hE2
  have hlen2 : (l ++ em).length = l.length + em.length := List.length_append
  have hgood : ∀ e ∈ l ++ em, GoodE e := fun e he => (List.mem_append.1 he).elim (Hw.out e) (Hw1.out e)
  have Hgood := hide hgood
  have Hlen2 := hide hlen2
  clear ho hg5 hE2 hgood hlen2 Ha2
  have hc := check_any a2 cap2 (l ++ em) w5 HE2.out (by have := Hlb.out; have := Hlen2.out; omega) hcap2 Hgood.out
  rcases res_app_none l em r0 0 (by omega) Hres.out with hM | ⟨i, hM, hi⟩
  · rw [hM] at hc
    refine hc.mono ?_
    rintro x w6 ⟨rfl, hg6⟩
    have Hg6 := hide (none_trans Hg5.out hg6)
    clear hg6 hc hM
    go_wp2
    go_ret
    exact ⟨rfl, Hg6.out⟩
  · rw [hM, Int.zero_add] at hc
    have qm : ((i : Int) == -1) = false := by first | (simp; done) | (simp; omega)
    have qg : decide ((200 : Int) ≤ (i : Int)) = true := by have : l.length = 200 := Hll.out; first | (simp; done) | (simp; omega)
    refine hc.mono ?_
    rintro x w6 ⟨rfl, hg6⟩
    have Hg6 := hide (none_trans Hg5.out hg6)
    clear hg6 hc hM
    go_wp2
    go_ret
    exact ⟨rfl, Hg6.out⟩

set_option maxHeartbeats 2000000 in
theorem parts_cu_s (a a1 : Option Addr) (cap cap1 : Nat) (el em : List Ev) (w : World) (h : EvsAt w a el) (h1 : EvsAt w a1 em) (hcap : el.length ≤ cap) (hcm : cap ≤ maxLen) (hcap1 : em.length ≤ cap1) (hcm1 : cap1 ≤ maxLen) (hw : ∀ e ∈ el, GoodE e) (hw1 : ∀ e ∈ em, GoodE e) (c1 : 200 < el.length) (c2 : em.length ≤ 200) (j : Nat) (hres : res (el.take 200) r0 0 = j) (hj : j < (el.take 200).length) :
    Calls Try.prog 4 #[.slice a el.length cap, .slice a1 em.length cap1] w fun x w' => x = .returned (.bool true) ∧ w.grownBy w' none := by
  obtain ⟨l, hl⟩ : ∃ l, el.take 200 = l := ⟨_, rfl⟩
  have hll : l.length = 200 := by rw [← hl]; simp; omega
  have H := hide (show EvsAt w a l by rw [← hl]; exact h.take 200)
  have Hw := hide (show ∀ e ∈ l, GoodE e by rw [← hl]; exact fun e he => hw e (List.mem_of_mem_take he))
  rw [hl] at hres hj
  clear hl
  have hml : em.length = em.length := rfl
  have H1 := hide h1
  have Hw1 := hide hw1
  have hcm' : cap ≤ 9223372036854775807 := by unfold maxLen at hcm; omega
  have hcm1' : cap1 ≤ 9223372036854775807 := by unfold maxLen at hcm1; omega
  have q1 : decide ((200 : Int) < (el.length : Int)) = true := by simp; omega
  have q2 : decide ((200 : Int) < (em.length : Int)) = false := by simp; omega
  have Hll := hide hll
  have Hml := hide hml
  have Hres := hide hres
  have hs := hide (shown_any w)
  have Hlb := hide (show l.length ≤ 200 ∧ l.length ≤ cap ∧ em.length ≤ 200 ∧ em.length ≤ cap1 by omega)
  have j1 : decide ((j : Int) < (200 : Int)) = true := by simp; omega
  have j2 : decide ((j : Int) < 0) = false := by simp
  have j3 : (0 : Int) ≤ j ∧ (j : Int) ≤ (cap : Int) := by have := Hlb.out; omega
  have j4 : (0 : Int) ≤ (j : Int) + 1 ∧ (j : Int) + 1 ≤ (cap : Int) := by have := Hlb.out; omega
  have hw9 : IntKind.i64.wrap ((j : Int) + 1) = (j : Int) + 1 := by rw [IntWalk.i64_in _ (by have := Hlb.out; omega)]
  have Hj := hide (show j < l.length by omega)
  clear hj
  clear h h1 hw hw1 hcm hcm1 hres hll hml
  go_enter Try.func4, Try.ntmps4
  go_wp2_with fail
  refine hs.out.mono ?_
  rintro x w1 ⟨rfl, hg1⟩
  have Hg1 := hide hg1
  clear hg1 hs
  go_wp2_with fail
  have hc := check_any a cap l w1 (H.out.gr Hg1.out) (by have := Hlb.out; omega) Hlb.out.2.1 Hw.out
  rw [Hres.out, Hll.out] at hc
  refine hc.mono ?_
  rintro x w2 ⟨rfl, hg2⟩
  have Hg2 := hide (only_trans Hg1.out hg2)
  have Happ := hide (AppSt.start w2)
  have HE := hide (H.out.gr Hg2.out)
  have HE1 := hide (H1.out.gr Hg2.out)
  clear hg2 hc
  go_wp2_with (first
    | (at_builtin; refine wpList_appEv rfl Happ.out Hll.out HE.out Hw.out rfl rfl (by omega) ?_; intro v1 w4 ha1; have Ha1 := hide ha1; clear ha1)
    | (at_builtin; refine wpList_appEv rfl Ha1.out rfl HE1.out Hw1.out rfl rfl (by omega) ?_; intro v2 w5 ha2; have Ha2 := hide ha2; clear ha2))
  have ho : Own w5 40 45 v2 (200 + em.length) (flat (l ++ em)) 0 := by
    have := Ha2.out.own
    rw [List.nil_append, ← flat_app, Nat.zero_add] at this
    exact this
  have hg5 : w.grownBy w5 none := none_trans Hg2.out (Ha2.out.chg.grown (fun _ _ h => h))
  obtain ⟨a2, cap2, rfl, hcap2, hE2⟩ := evs_own ho (by have a1 : l.length = 200 := Hll.out; have a2 : em.length = em.length := rfl; rw [List.length_append, a1, a2])
  have Hg5 := hide hg5
  have HE2 := hide hE2
  have hlen2 : (l ++ em).length = l.length + em.length := List.length_append
  have hgood : ∀ e ∈ l ++ em, GoodE e := fun e he => (List.mem_append.1 he).elim (Hw.out e) (Hw1.out e)
  have Hgood := hide hgood
  have Hlen2 := hide hlen2
  clear ho hg5 hE2 hgood hlen2 Ha2
  obtain ⟨ht1, ht2⟩ := res_take l r0 0 j (by omega) (by rw [Hres.out]; omega)
  rw [Int.zero_add] at ht2
  have hc := check_any a cap (l.take j) w5 ((H.out.gr Hg5.out).take j) (by rw [List.length_take]; have := Hlb.out; omega) (by rw [List.length_take]; have := Hlb.out; omega) (fun e he => Hw.out e (List.mem_of_mem_take he))
  rw [ht1, show (l.take j).length = j by rw [List.length_take]; have := Hj.out; omega] at hc
  have Ht2 := hide ht2
  refine hc.mono ?_
  rintro x w6 ⟨rfl, hg6⟩
  have Hg6 := hide (none_trans Hg5.out hg6)
  clear hc ht1 ht2
  have Hg56 := hide hg6
  clear hg6
  go_wp2_with fail
  have hc := check_any a cap (l.take (j + 1)) w6 ((H.out.gr Hg6.out).take (j + 1)) (by rw [List.length_take]; have := Hlb.out; omega) (by rw [List.length_take]; have := Hlb.out; omega) (fun e he => Hw.out e (List.mem_of_mem_take he))
  rw [Ht2.out, show (l.take (j + 1)).length = j + 1 by rw [List.length_take]; have := Hj.out; omega] at hc
  refine hc.mono ?_
  rintro x w7 ⟨rfl, hg7⟩
  have Hg7 := hide (none_trans Hg6.out hg7)
  have Hg57 := hide (none_trans Hg56.out hg7)
  clear hc hg7
  go_wp2_with fail
  have hc := check_any a2 cap2 (l ++ em) w7 (HE2.out.gr Hg57.out) (by have := Hlb.out; have := Hlen2.out; omega) hcap2 Hgood.out
  rw [res_app_some l em r0 0 (by rw [Hres.out]; omega), Hres.out, List.length_append] at hc
  refine hc.mono ?_
  rintro x w8 ⟨rfl, hg8⟩
  have Hg8 := hide (none_trans Hg7.out hg8)
  clear hc hg8
  go_wp2
  go_ret
  exact ⟨rfl, Hg8.out⟩

set_option maxHeartbeats 2000000 in
theorem parts_cc_n (a a1 : Option Addr) (cap cap1 : Nat) (el em : List Ev) (w : World) (h : EvsAt w a el) (h1 : EvsAt w a1 em) (hcap : el.length ≤ cap) (hcm : cap ≤ maxLen) (hcap1 : em.length ≤ cap1) (hcm1 : cap1 ≤ maxLen) (hw : ∀ e ∈ el, GoodE e) (hw1 : ∀ e ∈ em, GoodE e) (c1 : 200 < el.length) (c2 : 200 < em.length) (hres : res (el.take 200) r0 0 = -1) :
    Calls Try.prog 4 #[.slice a el.length cap, .slice a1 em.length cap1] w fun x w' => x = .returned (.bool true) ∧ w.grownBy w' none := by
  obtain ⟨l, hl⟩ : ∃ l, el.take 200 = l := ⟨_, rfl⟩
  have hll : l.length = 200 := by rw [← hl]; simp; omega
  have H := hide (show EvsAt w a l by rw [← hl]; exact h.take 200)
  have Hw := hide (show ∀ e ∈ l, GoodE e by rw [← hl]; exact fun e he => hw e (List.mem_of_mem_take he))
  rw [hl] at hres
  clear hl
  obtain ⟨m, hm⟩ : ∃ m, em.take 200 = m := ⟨_, rfl⟩
  have hml : m.length = 200 := by rw [← hm]; simp; omega
  have H1 := hide (show EvsAt w a1 m by rw [← hm]; exact h1.take 200)
  have Hw1 := hide (show ∀ e ∈ m, GoodE e by rw [← hm]; exact fun e he => hw1 e (List.mem_of_mem_take he))
  clear hm
  have hcm' : cap ≤ 9223372036854775807 := by unfold maxLen at hcm; omega
  have hcm1' : cap1 ≤ 9223372036854775807 := by unfold maxLen at hcm1; omega
  have q1 : decide ((200 : Int) < (el.length : Int)) = true := by simp; omega
  have q2 : decide ((200 : Int) < (em.length : Int)) = true := by simp; omega
  have Hll := hide hll
  have Hml := hide hml
  have Hres := hide hres
  have hs := hide (shown_any w)
  have Hlb := hide (show l.length ≤ 200 ∧ l.length ≤ cap ∧ m.length ≤ 200 ∧ m.length ≤ cap1 by omega)
  clear h h1 hw hw1 hcm hcm1 hres hll hml
  go_enter Try.func4, Try.ntmps4
  go_wp2_with fail
  refine hs.out.mono ?_
  rintro x w1 ⟨rfl, hg1⟩
  have Hg1 := hide hg1
  clear hg1 hs
  go_wp2_with fail
  have hc := check_any a cap l w1 (H.out.gr Hg1.out) (by have := Hlb.out; omega) Hlb.out.2.1 Hw.out
  rw [Hres.out, Hll.out] at hc
  refine hc.mono ?_
  rintro x w2 ⟨rfl, hg2⟩
  have Hg2 := hide (only_trans Hg1.out hg2)
  have Happ := hide (AppSt.start w2)
  have HE := hide (H.out.gr Hg2.out)
  have HE1 := hide (H1.out.gr Hg2.out)
  clear hg2 hc
  go_wp2_with (first
    | (at_builtin; refine wpList_appEv rfl Happ.out Hll.out HE.out Hw.out rfl rfl (by omega) ?_; intro v1 w4 ha1; have Ha1 := hide ha1; clear ha1)
    | (at_builtin; refine wpList_appEv rfl Ha1.out Hml.out HE1.out Hw1.out rfl rfl (by omega) ?_; intro v2 w5 ha2; have Ha2 := hide ha2; clear ha2))
  have ho : Own w5 40 45 v2 (200 + 200) (flat (l ++ m)) 0 := by
    have := Ha2.out.own
    rw [List.nil_append, ← flat_app, Nat.zero_add] at this
    exact this
  have hg5 : w.grownBy w5 none := none_trans Hg2.out (Ha2.out.chg.grown (fun _ _ h => h))
  obtain ⟨a2, cap2, rfl, hcap2, hE2⟩ := evs_own ho (by have a1 : l.length = 200 := Hll.out; have a2 : m.length = 200 := Hml.out; rw [List.length_append, a1, a2])
  have Hg5 := hide hg5
  have HE2 := hide hE2
  have hlen2 : (l ++ m).length = l.length + m.length := List.length_append
  have hgood : ∀ e ∈ l ++ m, GoodE e := fun e he => (List.mem_append.1 he).elim (Hw.out e) (Hw1.out e)
  have Hgood := hide hgood
  have Hlen2 := hide hlen2
  clear ho hg5 hE2 hgood hlen2 Ha2
  have hc := check_any a2 cap2 (l ++ m) w5 HE2.out (by have := Hlb.out; have := Hlen2.out; omega) hcap2 Hgood.out
  rcases res_app_none l m r0 0 (by omega) Hres.out with hM | ⟨i, hM, hi⟩
  · rw [hM] at hc
    refine hc.mono ?_
    rintro x w6 ⟨rfl, hg6⟩
    have Hg6 := hide (none_trans Hg5.out hg6)
    clear hg6 hc hM
    go_wp2
    go_ret
    exact ⟨rfl, Hg6.out⟩
  · rw [hM, Int.zero_add] at hc
    have qm : ((i : Int) == -1) = false := by first | (simp; done) | (simp; omega)
    have qg : decide ((200 : Int) ≤ (i : Int)) = true := by have : l.length = 200 := Hll.out; first | (simp; done) | (simp; omega)
    refine hc.mono ?_
    rintro x w6 ⟨rfl, hg6⟩
    have Hg6 := hide (none_trans Hg5.out hg6)
    clear hg6 hc hM
    go_wp2
    go_ret
    exact ⟨rfl, Hg6.out⟩

set_option maxHeartbeats 2000000 in
theorem parts_cc_s (a a1 : Option Addr) (cap cap1 : Nat) (el em : List Ev) (w : World) (h : EvsAt w a el) (h1 : EvsAt w a1 em) (hcap : el.length ≤ cap) (hcm : cap ≤ maxLen) (hcap1 : em.length ≤ cap1) (hcm1 : cap1 ≤ maxLen) (hw : ∀ e ∈ el, GoodE e) (hw1 : ∀ e ∈ em, GoodE e) (c1 : 200 < el.length) (c2 : 200 < em.length) (j : Nat) (hres : res (el.take 200) r0 0 = j) (hj : j < (el.take 200).length) :
    Calls Try.prog 4 #[.slice a el.length cap, .slice a1 em.length cap1] w fun x w' => x = .returned (.bool true) ∧ w.grownBy w' none := by
  obtain ⟨l, hl⟩ : ∃ l, el.take 200 = l := ⟨_, rfl⟩
  have hll : l.length = 200 := by rw [← hl]; simp; omega
  have H := hide (show EvsAt w a l by rw [← hl]; exact h.take 200)
  have Hw := hide (show ∀ e ∈ l, GoodE e by rw [← hl]; exact fun e he => hw e (List.mem_of_mem_take he))
  rw [hl] at hres hj
  clear hl
  obtain ⟨m, hm⟩ : ∃ m, em.take 200 = m := ⟨_, rfl⟩
  have hml : m.length = 200 := by rw [← hm]; simp; omega
  have H1 := hide (show EvsAt w a1 m by rw [← hm]; exact h1.take 200)
  have Hw1 := hide (show ∀ e ∈ m, GoodE e by rw [← hm]; exact fun e he => hw1 e (List.mem_of_mem_take he))
  clear hm
  have hcm' : cap ≤ 9223372036854775807 := by unfold maxLen at hcm; omega
  have hcm1' : cap1 ≤ 9223372036854775807 := by unfold maxLen at hcm1; omega
  have q1 : decide ((200 : Int) < (el.length : Int)) = true := by simp; omega
  have q2 : decide ((200 : Int) < (em.length : Int)) = true := by simp; omega
  have Hll := hide hll
  have Hml := hide hml
  have Hres := hide hres
  have hs := hide (shown_any w)
  have Hlb := hide (show l.length ≤ 200 ∧ l.length ≤ cap ∧ m.length ≤ 200 ∧ m.length ≤ cap1 by omega)
  have j1 : decide ((j : Int) < (200 : Int)) = true := by simp; omega
  have j2 : decide ((j : Int) < 0) = false := by simp
  have j3 : (0 : Int) ≤ j ∧ (j : Int) ≤ (cap : Int) := by have := Hlb.out; omega
  have j4 : (0 : Int) ≤ (j : Int) + 1 ∧ (j : Int) + 1 ≤ (cap : Int) := by have := Hlb.out; omega
  have hw9 : IntKind.i64.wrap ((j : Int) + 1) = (j : Int) + 1 := by rw [IntWalk.i64_in _ (by have := Hlb.out; omega)]
  have Hj := hide (show j < l.length by omega)
  clear hj
  clear h h1 hw hw1 hcm hcm1 hres hll hml
  go_enter Try.func4, Try.ntmps4
  go_wp2_with fail
  refine hs.out.mono ?_
  rintro x w1 ⟨rfl, hg1⟩
  have Hg1 := hide hg1
  clear hg1 hs
  go_wp2_with fail
  have hc := check_any a cap l w1 (H.out.gr Hg1.out) (by have := Hlb.out; omega) Hlb.out.2.1 Hw.out
  rw [Hres.out, Hll.out] at hc
  refine hc.mono ?_
  rintro x w2 ⟨rfl, hg2⟩
  have Hg2 := hide (only_trans Hg1.out hg2)
  have Happ := hide (AppSt.start w2)
  have HE := hide (H.out.gr Hg2.out)
  have HE1 := hide (H1.out.gr Hg2.out)
  clear hg2 hc
  go_wp2_with (first
    | (at_builtin; refine wpList_appEv rfl Happ.out Hll.out HE.out Hw.out rfl rfl (by omega) ?_; intro v1 w4 ha1; have Ha1 := hide ha1; clear ha1)
    | (at_builtin; refine wpList_appEv rfl Ha1.out Hml.out HE1.out Hw1.out rfl rfl (by omega) ?_; intro v2 w5 ha2; have Ha2 := hide ha2; clear ha2))
  have ho : Own w5 40 45 v2 (200 + 200) (flat (l ++ m)) 0 := by
    have := Ha2.out.own
    rw [List.nil_append, ← flat_app, Nat.zero_add] at this
    exact this
  have hg5 : w.grownBy w5 none := none_trans Hg2.out (Ha2.out.chg.grown (fun _ _ h => h))
  obtain ⟨a2, cap2, rfl, hcap2, hE2⟩ := evs_own ho (by have a1 : l.length = 200 := Hll.out; have a2 : m.length = 200 := Hml.out; rw [List.length_append, a1, a2])
  have Hg5 := hide hg5
  have HE2 := hide hE2
  have hlen2 : (l ++ m).length = l.length + m.length := List.length_append
  have hgood : ∀ e ∈ l ++ m, GoodE e := fun e he => (List.mem_append.1 he).elim (Hw.out e) (Hw1.out e)
  have Hgood := hide hgood
  have Hlen2 := hide hlen2
  clear ho hg5 hE2 hgood hlen2 Ha2
  obtain ⟨ht1, ht2⟩ := res_take l r0 0 j (by omega) (by rw [Hres.out]; omega)
  rw [Int.zero_add] at ht2
  have hc := check_any a cap (l.take j) w5 ((H.out.gr Hg5.out).take j) (by rw [List.length_take]; have := Hlb.out; omega) (by rw [List.length_take]; have := Hlb.out; omega) (fun e he => Hw.out e (List.mem_of_mem_take he))
  rw [ht1, show (l.take j).length = j by rw [List.length_take]; have := Hj.out; omega] at hc
  have Ht2 := hide ht2
  refine hc.mono ?_
  rintro x w6 ⟨rfl, hg6⟩
  have Hg6 := hide (none_trans Hg5.out hg6)
  clear hc ht1 ht2
  have Hg56 := hide hg6
  clear hg6
  go_wp2_with fail
  have hc := check_any a cap (l.take (j + 1)) w6 ((H.out.gr Hg6.out).take (j + 1)) (by rw [List.length_take]; have := Hlb.out; omega) (by rw [List.length_take]; have := Hlb.out; omega) (fun e he => Hw.out e (List.mem_of_mem_take he))
  rw [Ht2.out, show (l.take (j + 1)).length = j + 1 by rw [List.length_take]; have := Hj.out; omega] at hc
  refine hc.mono ?_
  rintro x w7 ⟨rfl, hg7⟩
  have Hg7 := hide (none_trans Hg6.out hg7)
  have Hg57 := hide (none_trans Hg56.out hg7)
  clear hc hg7
  go_wp2_with fail
  have hc := check_any a2 cap2 (l ++ m) w7 (HE2.out.gr Hg57.out) (by have := Hlb.out; have := Hlen2.out; omega) hcap2 Hgood.out
  rw [res_app_some l m r0 0 (by rw [Hres.out]; omega), Hres.out, List.length_append] at hc
  refine hc.mono ?_
  rintro x w8 ⟨rfl, hg8⟩
  have Hg8 := hide (none_trans Hg7.out hg8)
  clear hc hg8
  go_wp2
  go_ret
  exact ⟨rfl, Hg8.out⟩

theorem parts_any (a a1 : Option Addr) (cap cap1 : Nat) (el em : List Ev) (w : World) (h : EvsAt w a el) (h1 : EvsAt w a1 em) (hcap : el.length ≤ cap) (hcm : cap ≤ maxLen) (hcap1 : em.length ≤ cap1) (hcm1 : cap1 ≤ maxLen) (hw : ∀ e ∈ el, GoodE e) (hw1 : ∀ e ∈ em, GoodE e) :
    Calls Try.prog 4 #[.slice a el.length cap, .slice a1 em.length cap1] w fun x w' => x = .returned (.bool true) ∧ w.grownBy w' none := by
  by_cases c1 : el.length ≤ 200
  · rcases res_range el r0 0 with hr | ⟨j, hr, hj⟩
    · by_cases c2 : em.length ≤ 200
      · exact parts_uu_n a a1 cap cap1 el em w h h1 hcap hcm hcap1 hcm1 hw hw1 c1 c2 hr
      · exact parts_uc_n a a1 cap cap1 el em w h h1 hcap hcm hcap1 hcm1 hw hw1 c1 (by omega) hr
    · by_cases c2 : em.length ≤ 200
      · exact parts_uu_s a a1 cap cap1 el em w h h1 hcap hcm hcap1 hcm1 hw hw1 c1 c2 j (by rw [hr]; omega) hj
      · exact parts_uc_s a a1 cap cap1 el em w h h1 hcap hcm hcap1 hcm1 hw hw1 c1 (by omega) j (by rw [hr]; omega) hj
  · rcases res_range (el.take 200) r0 0 with hr | ⟨j, hr, hj⟩
    · by_cases c2 : em.length ≤ 200
      · exact parts_cu_n a a1 cap cap1 el em w h h1 hcap hcm hcap1 hcm1 hw hw1 (by omega) c2 hr
      · exact parts_cc_n a a1 cap cap1 el em w h h1 hcap hcm hcap1 hcm1 hw hw1 (by omega) (by omega) hr
    · by_cases c2 : em.length ≤ 200
      · exact parts_cu_s a a1 cap cap1 el em w h h1 hcap hcm hcap1 hcm1 hw hw1 (by omega) c2 j (by rw [hr]; omega) hj
      · exact parts_cc_s a a1 cap cap1 el em w h h1 hcap hcm hcap1 hcm1 hw hw1 (by omega) (by omega) j (by rw [hr]; omega) hj

end Go.Proofs.Ytolmpejaakpikaa
