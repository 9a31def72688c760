/- The walk of PrintWords. -/
import Derived.Test.YtdhfhphbkfgamaaTZ
import Derived.Test.YtdhfhphbkfgamaaTQ
import Derived.Test.YtdhfhphbkfgamaaPM
import Derived.Deep.LoopGhost
namespace Go.Proofs.Ytdhfhphbkfgamaa
open Go.RowKit Lx
set_option maxRecDepth 100000

def chF (c : UInt8) : UInt8 := abc.getD (c.toNat % 36) 0
def wdF (s : List UInt8) : List UInt8 := (s.take 20).map chF
def wsF (l : List (List UInt8)) (i : Nat) : List (List UInt8) := ((l.take i).map wdF).filter fun s => s != []
theorem abc_len : abc.length = 36 := rfl
theorem chF_in (c : UInt8) : chF c ∈ abc := by
  unfold chF
  have h : c.toNat % 36 < abc.length := Nat.mod_lt _ (by decide)
  rw [List.getD_eq_getElem?_getD, List.getElem?_eq_getElem h]
  exact List.getElem_mem h
theorem wdF_len (s : List UInt8) : (wdF s).length ≤ 20 := by unfold wdF; rw [List.length_map, List.length_take]; omega
theorem wsF_ok {l : List (List UInt8)} {i : Nat} : (∀ s ∈ wsF l i, OkW s ∧ s.length ≤ 20) ∧ (wsF l i).length ≤ i := by
  refine ⟨fun s hs => ?_, ?_⟩
  · unfold wsF at hs
    rw [List.mem_filter] at hs
    obtain ⟨h1, h2⟩ := hs
    obtain ⟨t, _, rfl⟩ := List.mem_map.1 h1
    refine ⟨⟨by simpa using h2, fun c hc => ?_⟩, wdF_len t⟩
    unfold wdF at hc
    obtain ⟨x, _, rfl⟩ := List.mem_map.1 hc
    exact chF_in x
  · refine Nat.le_trans (List.length_filter_le _ _) ?_
    rw [List.length_map, List.length_take]
    omega
theorem wsF_step {l : List (List UInt8)} {i : Nat} (h : i < l.length) : wsF l (i + 1) = if wdF l[i] = [] then wsF l i else wsF l i ++ [wdF l[i]] := by
  unfold wsF
  rw [List.take_succ_eq_append_getElem h, List.map_append, List.filter_append]
  simp only [List.map_cons, List.map_nil]
  split
  · rename_i h1
    rw [h1]
    simp
  · rename_i h1
    rw [List.filter_cons, if_pos (by simpa using h1)]
    simp
theorem tail20 {l : List (List UInt8)} {i : Nat} (h : i ≤ 30) : (cB ++ tailF (wsF l i)).length ≤ 4000 := by
  have h1 := tail_len (wsF l i) 20 (fun s hs => (wsF_ok.1 s hs).2)
  have h2 := (wsF_ok (l := l) (i := i)).2
  have h3 : (wsF l i).length * 21 ≤ 30 * 21 := Nat.mul_le_mul_right _ (by omega)
  rw [List.length_append]
  show 1 + _ ≤ 4000
  omega
theorem run_str1w (w : World) (c : UInt8) : (convert 30 9 (.slice (some ⟨w.heap.size, 0, none⟩) 1 1)).run Try.prog (w.alloc (.cells #[.int .u8 c.toNat] 5)) = .ok (.string ⟨#[c]⟩) (w.alloc (.cells #[.int .u8 c.toNat] 5)) :=
  run_string_of_bytes (w.alloc (.cells #[.int .u8 c.toNat] 5)) (e := 5) (by kernel_rfl) (by kernel_rfl) (by kernel_rfl) ⟨w.heap.size, 0, none⟩ [c] 1 (fun i hi => by
    have hi0 : i = 0 := by simpa using hi
    subst hi0
    exact Blk.cell (Blk.new w 5 #[.int .u8 c.toNat]) 0)
theorem node1w {w : World} {a b r : Value} {n : Nd} (h : NdAt nobody w a b r (.slice none 0 0) (.slice none 0 0) n) : NdS nobody (w.alloc (.cells (ndCells n a b r (.slice none 0 0) (.slice none 0 0)).toArray 35)) (.slice (some ⟨w.heap.size, 0, none⟩) 1 1) [n] := by
  refine ⟨ndCells n a b r (.slice none 0 0) (.slice none 0 0), ⟨rfl, .inr ⟨w.heap.size, 0, 1, _, (0, 0), rfl, Blk.new w 35 _, Nat.le_refl _, Nat.le_refl _, by unfold maxLen; omega, by show 0 + 1 * 8 ≤ 8; omega, fun j hj => by rw [Nat.zero_add]; simp⟩⟩, fun i hi => ?_⟩
  have h0 : i = 0 := by simpa using hi
  subst h0
  exact ⟨a, b, r, _, _, rfl, h.fr (base := fun _ => False) (Fr.of_grown (only_alloc (only_refl w none) _))⟩
theorem nodeW {w : World} {v : Value} {ws : List (List UInt8)} (h : StrS w v ws) : NdAt nobody w (.slice none 0 0) v (.slice none 0 0) (.slice none 0 0) (.slice none 0 0) { kind := 1, words := ws } :=
  ⟨Own.nil _ _ _ _, h, Own.nil _ _ _ _, ⟨[], Own.nil _ _ _ _, fun b hb => (by cases hb), fun i hi => absurd hi (by simp)⟩, Own.nil _ _ _ _, fun k hk e => e.elim, fun k hk e => e.elim, fun k hk e => e.elim, fun k hk e => e.elim⟩
theorem lts_cmd {ws : List (List UInt8)} (h1 : ws.length ≤ 1000) (h2 : ∀ s ∈ ws, s.length ≤ 1000) : Lts (cmdN ws) := by
  intro n hn
  unfold cmdN at hn
  rw [List.mem_singleton] at hn
  subst hn
  exact ⟨Nat.zero_le _, Nat.zero_le _, ⟨fun s hs => Nat.le_trans (h2 s hs) (by decide), fun p hp => (by cases hp), fun r hr => (by cases hr)⟩⟩
/-- Print of one command of words, in a new block. -/
theorem print_words_any {ws : List (List UInt8)} {w : World} {v : Value} (h : StrS w v ws) (h1 : ws.length ≤ 1000) (h2 : ∀ s ∈ ws, s.length ≤ 1000) : Calls Try.prog 7 #[.slice (some ⟨w.heap.size, 0, none⟩) 1 1] (w.alloc (.cells #[.int .i64 1, .string ⟨#[]⟩, .bool false, .slice none 0 0, v, .slice none 0 0, .slice none 0 0, .slice none 0 0] 35)) fun e w' => e = .returned (.string ⟨(printF (cmdN ws)).toArray⟩) ∧ (w.alloc (.cells #[.int .i64 1, .string ⟨#[]⟩, .bool false, .slice none 0 0, v, .slice none 0 0, .slice none 0 0, .slice none 0 0] 35)).grownBy w' none :=
  print_any (cmdN ws) _ _ (NdS.ndsR (node1w (nodeW h))) (lts_cmd h1 h2)
/-- Words under way, in a slice of one's own. -/
structure WAt (w W : World) (v : Value) (ws : List (List UInt8)) : Prop where
  own : StrS W v ws
  new : ∀ g, v.ownBlock = some g → w.heap.size ≤ g
  gr : w.grownBy W none
section
variable {w W W' wA : World} {v vA : Value} {ws : List (List UInt8)}
theorem WAt.grown (h : WAt w W v ws) (hg : W.grownBy W' none) : WAt w W' v ws := ⟨old_own hg h.own, h.new, none_trans h.gr hg⟩
theorem WAt.app (h : WAt w W v ws) (o : Obj) {x : List UInt8} (ho : Own wA 9 1 vA (ws.length + 1) (ws.map sv ++ [sv x]) 0) (hc : Chg (fun k => v.ownBlock = some k) (W.alloc o) wA) (hn : ∀ k, vA.ownBlock = some k → v.ownBlock = some k ∨ (W.alloc o).heap.size ≤ k) : WAt w wA vA (ws ++ [x]) := by
  refine ⟨?_, fun g hg => ?_, ?_⟩
  · unfold StrS
    rw [List.length_append, List.length_singleton, List.map_append]
    exact ho
  · rcases hn g hg with e | e
    · exact h.new g e
    · rw [World.size_alloc] at e
      have := h.gr.size
      omega
  · have h1 := only_alloc h.gr o
    exact ⟨hc.os.trans h1.os, hc.tape.trans h1.tape, hc.output.trans h1.output, Nat.le_trans h1.size hc.size, fun k hk hne => (hc.block k (Nat.lt_of_lt_of_le hk h1.size) (fun e => by have := h.new k e; omega)).trans (h1.block k hk hne)⟩
end
/-- Words in blocks from lo on. -/
structure WLo (lo : Nat) (W : World) (v : Value) (ws : List (List UInt8)) : Prop where
  own : StrS W v ws
  new : ∀ g, v.ownBlock = some g → lo ≤ g
section
variable {w W wA : World} {v vA : Value} {ws us : List (List UInt8)} {lo : Nat}
theorem WLo.start (W : World) : WLo W.heap.size (W.alloc (.cells #[] 9)) (.slice (some ⟨W.heap.size, 0, none⟩) 0 0) [] :=
  ⟨Own.made W #[] 9 1 0 0 rfl (Nat.zero_le _), fun g hg => by simp [Value.ownBlock] at hg; omega⟩
theorem WLo.apps (h : WLo lo W v ws) (hl : lo ≤ W.heap.size) (ho : Own wA 9 1 vA (ws.length + us.length) (ws.map sv ++ us.map sv) 0) (hn : ∀ k, vA.ownBlock = some k → v.ownBlock = some k ∨ W.heap.size ≤ k) : WLo lo wA vA (ws ++ us) := by
  refine ⟨?_, fun g hg => ?_⟩
  · unfold StrS
    rw [List.length_append, List.map_append]
    exact ho
  · rcases hn g hg with e | e
    · exact h.new g e
    · omega
theorem str_old {S : Nat → Prop} (h : StrS W v ws) (hc : Chg S W wA) (hS : ∀ k, S k → lo ≤ k) (hv : ∀ g, v.ownBlock = some g → g < lo) : StrS wA v ws := Own.chg h hc fun g hg e => by have := hS g e; have := hv g hg; omega
theorem gr_old {S : Nat → Prop} (hg : w.grownBy W none) (hc : Chg S W wA) (hS : ∀ k, S k → w.heap.size ≤ k) : w.grownBy wA none :=
  ⟨hc.os.trans hg.os, hc.tape.trans hg.tape, hc.output.trans hg.output, Nat.le_trans hg.size hc.size, fun k hk hne => (hc.block k (Nat.lt_of_lt_of_le hk hg.size) (fun e => by have := hS k e; omega)).trans (hg.block k hk hne)⟩
theorem StrS.cast2 {W : World} {v : Value} {ws : List (List UInt8)} {n : Nat} (h : StrS W v ws) (hn : ws.length = n) : Own W 9 1 v n (ws.map sv) 0 := by subst hn; exact h
theorem srcWs {w : World} {v : Value} {l : List (List UInt8)} (h : StrS w v l) : Src Try.prog 1 29 v l.length (l.map sv) w :=
  Own.src (P := Try.prog) (tx := 29) (e' := 9) (e := 9) h (by kernel_rfl) (by
    intro u hu
    obtain ⟨x, _, rfl⟩ := List.mem_map.1 hu
    rfl)
end
theorem StrL.grown {w w' : World} {a : Option Addr} {ss : List (List UInt8)} (h : StrL w a ss) (hg : w.grownBy w' none) : StrL w' a ss := fun i hi => by
  obtain ⟨b, off, h1, h2, h3⟩ := h i hi
  exact ⟨b, off, h1, Nat.lt_of_lt_of_le h2 hg.size, old_cell hg h2 h3⟩
set_option maxHeartbeats 16000000 in
theorem pwords_any (l : List (List UInt8)) (al : Option Addr) (cap : Nat) (w : World) (h : StrL w al l) (hl : l.length ≤ 9223372036854775807) (hs : ∀ s ∈ l, s.length ≤ 9223372036854775807) :
    Calls Try.prog 4 #[.slice al l.length cap] w fun e w' => e = .returned (.bool true) ∧ w.grownBy w' none := by
  have Hs := hide (fun W => shown_any W)
  have HL := hide h
  have HSZ := hide hs
  clear h hs
  go_enter Try.func4, Try.ntmps4
  go_wp2_with fail
  refine (Hs.out _).mono ?_
  rintro e w1 ⟨rfl, g1⟩
  have HW0 := hide (⟨Own.nil _ _ _ _, fun g hg => (by cases hg), g1⟩ : WAt w w1 (.slice none 0 0) [])
  clear g1
  go_wp2_with (at_builtin; refine wpList_appAt 9 (.string ⟨#[]⟩) 1 16 Try.underlying29 infoStr rfl (.slice none 0 0) 0 [] 0 _ 1 [sv [99]] rfl rfl (Own.nil _ _ _ _) (by omega) (srcS _ _ [99] rfl) (by unfold maxLen; omega) (by omega) ?_; intro vA wA ho hc hn2 _; (have HW1 := hide (WAt.app HW0.out _ (x := [99]) ho hc hn2)); (obtain ⟨aA, cA, rfl, _, _⟩ := Own.form ho); clear ho hc hn2)
  go_loopg [4, 5, 6, 7, 8] 30 (fun g v4 v5 v6 v7 v8 wr => ∃ i : Nat, v6 = .int .i64 i ∧ i ≤ l.length ∧ i ≤ 30 ∧ 30 - i ≤ g ∧ v5 = sv (cB ++ tailF (wsF l i)) ∧ WAt w wr v4 (cB :: wsF l i))
  case atStart => exact ⟨0, rfl, Nat.zero_le _, Nat.zero_le _, Nat.le_refl _, rfl, HW1.out⟩
  case round =>
    obtain ⟨g0, hg0⟩ : ∃ x, x = gk := ⟨_, rfl⟩
    subst hg0
    obtain ⟨wo, hwo⟩ : ∃ x, x = wr := ⟨_, rfl⟩
    subst hwo
    obtain ⟨i, rfl, hi, hi30, hgi, rfl, hW⟩ := hrel
    have HG := hide hgi
    have HW := hide hW
    have hwl := (wsF_ok (l := l) (i := i)).2
    have HT := hide (tail20 (l := l) hi30)
    have HST := hide (fun h => wsF_step (l := l) (i := i) h)
    have HOK := hide ((wsF_ok (l := l) (i := i)).1)
    have HWO := hide (show wsF l i = wsF l i from rfl)
    obtain ⟨ws, hws⟩ : ∃ ws, wsF l i = ws := ⟨_, rfl⟩
    rw [hws] at HW hwl HT HST HOK
    have HWS := hide hws
    simp only [hws]
    obtain ⟨a4, c4, rfl, _, _⟩ := Own.form HW.out.own
    have HW := hide (show WAt w wo (.slice a4 (ws.length + 1) c4) (cB :: ws) from HW.out)
    have HWl := hide hwl
    simp only [List.length_cons]
    have hlen4 : ws.length ≤ 30 := by omega
    clear hgi hW hwl hws HWO
    by_cases hlt : i < l.length ∧ i < 30
    · obtain ⟨hlt, hlt30⟩ := hlt
      have q0 : decide ((i : Int) < (l.length : Int)) = true := decide_eq_true (by omega)
      have q1 : decide ((i : Int) < 30) = true := decide_eq_true (by omega)
      have hib : (0 : Int) ≤ (i : Int) ∧ (i : Int) < (l.length : Int) := by omega
      obtain ⟨bb, ob, e1, hbb, p1⟩ := HL.out i hlt
      subst e1
      have HSI := hide (HSZ.out _ (List.getElem_mem hlt))
      have HST := hide (HST.out hlt)
      obtain ⟨s, hs⟩ : ∃ s, l[i] = s := ⟨_, rfl⟩
      rw [hs] at p1 HSI HST
      have hsz := sz s
      have HP := hide (And.intro hbb p1)
      clear hs hbb p1
      go_wp2_with fail
      go_loopg [7, 8] 20 (fun g v7 v8 wr => ∃ k : Nat, v8 = .int .i64 k ∧ k ≤ s.length ∧ k ≤ 20 ∧ 20 - k ≤ g ∧ v7 = sv ((s.take k).map chF) ∧ wo.grownBy wr none)
      case atStart => exact ⟨0, rfl, Nat.zero_le _, Nat.zero_le _, Nat.le_refl _, rfl, only_refl _ _⟩
      case round =>
        obtain ⟨k, rfl, hk, hk20, hgk, rfl, hgr⟩ := hrel
        have HGK := hide hgk
        have HGR := hide hgr
        have p1 := old_cell (none_trans HW.out.gr hgr) HP.out.1 HP.out.2
        have hbb := Nat.lt_of_lt_of_le HP.out.1 (none_trans HW.out.gr hgr).size
        unfold sv at p1
        clear hgk hgr
        by_cases hkl : k < s.length ∧ k < 20
        · obtain ⟨hkl, hk2⟩ := hkl
          have r0 : decide ((k : Int) < (s.length : Int)) = true := decide_eq_true (by omega)
          have r1 : decide ((k : Int) < 20) = true := decide_eq_true (by omega)
          have hik : (0 : Int) ≤ (k : Int) ∧ (k : Int) < (s.length : Int) := by omega
          have hat := str_at' s k hkl
          have hst : (s.take (k + 1)).map chF = (s.take k).map chF ++ [chF s[k]] := by rw [List.take_succ_eq_append_getElem hkl, List.map_append]; rfl
          obtain ⟨c, hc⟩ : ∃ c, s[k] = c := ⟨_, rfl⟩
          rw [hc] at hat hst
          have hmod : ((c.toNat : Int)).tmod 36 = ((c.toNat % 36 : Nat) : Int) := rfl
          have hm36 : c.toNat % 36 < 36 := Nat.mod_lt _ (by decide)
          have hcf : chF c = abc.getD (c.toNat % 36) 0 := rfl
          obtain ⟨m, hm⟩ : ∃ m, c.toNat % 36 = m := ⟨_, rfl⟩
          rw [hm] at hmod hm36 hcf
          have hca : abc[m]'(by rw [abc_len]; exact hm36) = chF c := by
            rw [hcf, List.getD_eq_getElem?_getD, List.getElem?_eq_getElem (by rw [abc_len]; exact hm36)]
            rfl
          have hch := (str_at' abc m (by rw [abc_len]; exact hm36)).trans hca
          unfold abc at hch
          have him : (0 : Int) ≤ (m : Int) ∧ (m : Int) < 36 := by omega
          obtain ⟨y, hy⟩ : ∃ y, chF c = y := ⟨_, rfl⟩
          rw [hy] at hch hst
          obtain ⟨X, hX⟩ : ∃ X, (s.take k).map chF = X := ⟨_, rfl⟩
          have hXl : X.length ≤ 20 := by rw [← hX, List.length_map, List.length_take]; omega
          rw [hX] at hst ⊢
          have HST2 := hide hst
          have E1 := hide (cat_ba X [y])
          have HZX := hide (sz X)
          clear hc hm hcf hca hy hX hst
          unfold sv
          go_wp2_with (first | (refine wpList_convert (.string ⟨#[y]⟩) (run_str1w _ y) ?_) | (refine wpList_concat ⟨X.toArray⟩ ⟨#[y]⟩ rfl rfl (by rw [HZX.out]; show _ + 1 ≤ _; omega) ?_; (have e1 := E1.out); rw [e1]; clear e1))
          go_roundg (gk - 1)
          case rel => exact ⟨k + 1, by go_num, by omega, by omega, by have := HGK.out; omega, by rw [HST2.out]; rfl, only_alloc HGR.out _⟩
          case measure => have := HGK.out; omega
        · have hX : (s.take k).map chF = wdF s := by
            unfold wdF
            congr 1
            rcases Nat.lt_or_ge k 20 with h | h
            · have hks : k = s.length := by omega
              rw [hks, List.take_length, List.take_of_length_le (by omega)]
            · have hk20' : k = 20 := by omega
              rw [hk20']
          rw [hX]
          clear hX
          obtain ⟨X, hX⟩ : ∃ X, wdF s = X := ⟨_, rfl⟩
          have hXl := wdF_len s
          rw [hX] at HST hXl ⊢
          have HOX := hide (fun (h : X ≠ []) => (show OkW X by
            have := (wsF_ok (l := [s]) (i := 1)).1 X (by unfold wsF; simp [hX, h])
            exact this.1))
          have HW2 := hide (HW.out.grown HGR.out)
          have hszX := sz X
          clear hX
          go_upto_region 10 with (fail)
          go_cut [35] (fun v35 wx => v35 = .bool false ∧ wx = wr)
          case first =>
            by_cases h1 : k < s.length
            · obtain rfl : k = 20 := by omega
              have r0 : decide (((20 : Nat) : Int) < (s.length : Int)) = true := decide_eq_true (by omega)
              clear hkl
              go_wp2_with fail
              go_meet
              exact ⟨rfl, rfl⟩
            · obtain rfl : k = s.length := by omega
              have r0 : decide ((s.length : Int) < (s.length : Int)) = false := decide_eq_false (by omega)
              clear hkl
              go_wp2_with fail
              go_meet
              exact ⟨rfl, rfl⟩
          case rest =>
           obtain ⟨rfl, hwc⟩ := hcut
           subst hwc
           clear hkl p1 hbb
           unfold sv
           by_cases hem : X = []
           · subst hem
             have HST := hide (HST.out.trans (if_pos rfl))
             all_goals (
               go_wp2_with fail
               go_roundg (g0 - 1)
               case rel => exact ⟨i + 1, by go_num, by omega, by omega, by have := HG.out; omega, by rw [HST.out]; rfl, by rw [HST.out]; exact HW2.out⟩
               case measure => have := HG.out; omega)
           · have qX : (X == ([] : List UInt8)) = false := beq_eq_false_iff_ne.2 hem
             have HST := hide (HST.out.trans (if_neg hem))
             obtain ⟨Y, hY⟩ : ∃ Y, cB ++ tailF ws = Y := ⟨_, rfl⟩
             have hYl : Y.length ≤ 4000 := by rw [← hY]; exact HT.out
             have HY := hide (show cB ++ tailF (ws ++ [X]) = (Y ++ [32]) ++ X by rw [tail_snoc, ← hY]; simp)
             simp only [hY]
             have E1 := hide (cat_ba Y [32])
             have E2 := hide (cat_ba (Y ++ [32]) X)
             obtain ⟨Y2, hY2⟩ : ∃ Y2, Y ++ [32] = Y2 := ⟨_, rfl⟩
             have hY2l : Y2.length ≤ 4001 := by rw [← hY2, List.length_append, List.length_singleton]; omega
             rw [hY2] at E1 E2 HY
             have HZY := hide (And.intro (sz Y) (And.intro (sz Y2) (sz X)))
             clear hY hY2 hem
             all_goals (
               go_wp2_with (first | (at_builtin; refine wpList_appAt 9 (.string ⟨#[]⟩) 1 16 Try.underlying29 infoStr rfl (.slice a4 (ws.length + 1) c4) (ws.length + 1) ((cB :: ws).map sv) 0 _ 1 [sv X] rfl rfl (Own.alloc HW2.out.own _) (by omega) (srcS _ _ X rfl) (by unfold maxLen; omega) (by omega) ?_; intro vA wA ho hc hn2 _; (have HW3 := hide (WAt.app HW2.out _ (x := X) ho hc hn2)); (obtain ⟨aA, cA, rfl, _, _⟩ := Own.form ho); clear ho hc hn2) | (refine wpList_concat ⟨Y.toArray⟩ ⟨#[32]⟩ rfl rfl (by rw [HZY.out.1]; show _ + 1 ≤ _; omega) ?_; (have e1 := E1.out); rw [e1]; clear e1) | (refine wpList_concat ⟨Y2.toArray⟩ ⟨X.toArray⟩ rfl rfl (by rw [HZY.out.2.1, HZY.out.2.2]; omega) ?_; (have e2 := E2.out); rw [e2]; clear e2))
               go_roundg (g0 - 1)
               case rel => exact ⟨i + 1, by go_num, by omega, by omega, by have := HG.out; omega, by rw [HST.out, HY.out]; rfl, by rw [HST.out]; exact HW3.out⟩
               case measure => have := HG.out; omega)
    · go_upto_region 6 with (fail)
      go_cut [22] (fun v22 wx => v22 = .bool false ∧ wx = wo)
      case first =>
        by_cases h1 : i < l.length
        · obtain rfl : i = 30 := by omega
          have r0 : decide (((30 : Nat) : Int) < (l.length : Int)) = true := decide_eq_true (by omega)
          clear hlt
          go_wp2_with fail
          go_meet
          exact ⟨rfl, rfl⟩
        · obtain rfl : i = l.length := by omega
          have r0 : decide ((l.length : Int) < (l.length : Int)) = false := decide_eq_false (by omega)
          clear hlt
          go_wp2_with fail
          go_meet
          exact ⟨rfl, rfl⟩
      case rest =>
      obtain ⟨rfl, hwc⟩ := hcut
      subst hwc
      clear hlt
      obtain ⟨Y, hY⟩ : ∃ Y, cB ++ tailF ws = Y := ⟨_, rfl⟩
      have HP1 := hide (print_words (ws := ws) (fun x hx => (HOK.out x hx).1) (by have := HT.out; omega) (by omega))
      have HP2 := hide (print_bad (ws := ws) (fun x hx => (HOK.out x hx).1) (by have := HT.out; omega) (by omega))
      have HP3 := hide (print_worse (ws := ws) (fun x hx => (HOK.out x hx).1) (by have := HT.out; omega) (by omega))
      rw [hY] at HP1
      simp only [hY]
      clear hY
      have HE := hide (WLo.start wc)
      have HWe := hide (show StrS (wc.alloc (.cells #[] 9)) (.slice a4 (ws.length + 1) c4) (cB :: ws) from Own.alloc HW.out.own _)
      have HGe := hide (only_alloc HW.out.gr (.cells #[] 9))
      have HGs := hide (show w.heap.size ≤ wc.heap.size from HW.out.gr.size)
      go_upto_region 17 with (first | (at_builtin; refine wpList_appAt 9 (.string ⟨#[]⟩) 1 16 Try.underlying29 infoStr rfl (.slice (some ⟨wc.heap.size, 0, none⟩) 0 0) 0 [] 0 _ (ws.length + 1) ((cB :: ws).map sv) rfl rfl HE.out.own (by omega) (srcWs HWe.out) (by unfold maxLen; omega) (by omega) ?_; intro vA wA ho hc hn2 _; (have hq := WLo.apps (us := cB :: ws) HE.out (Nat.le_of_lt (by rw [World.size_alloc]; omega)) ho hn2); (have HE1 := hide (show WLo wc.heap.size wA vA (cB :: ws) from hq)); (have HW1 := hide (str_old HWe.out hc (fun k e => HE.out.new k e) (fun g hg => Own.lt HW.out.own hg))); (have HG1 := hide (gr_old HGe.out hc (fun k e => Nat.le_trans HGs.out (HE.out.new k e)))); (have hsz1 := hc.size); rw [World.size_alloc] at hsz1; (have HS1 := hide (show wc.heap.size ≤ wA.heap.size by omega)); (have ho2 : Own wA 9 1 vA (ws.length + 1) ((cB :: ws).map sv) 0 := hq.own); (obtain ⟨aA, cA, rfl, _, _⟩ := Own.form ho2); clear ho hc hn2 hq ho2 hsz1) | (at_builtin; refine wpList_appAt 9 (.string ⟨#[]⟩) 1 16 Try.underlying29 infoStr rfl (.slice aA (ws.length + 1) cA) (ws.length + 1) ((cB :: ws).map sv) 0 _ 1 [sv []] rfl rfl (Own.alloc HE1.out.own _) (by omega) (srcS _ _ [] rfl) (by unfold maxLen; omega) (by omega) ?_; intro vB wB ho hc hn2 _; (have hq := WLo.apps (us := [[]]) (W := wA.alloc (.cells #[.string ⟨([] : List UInt8).toArray⟩] 9)) (⟨Own.alloc HE1.out.own _, HE1.out.new⟩) (by rw [World.size_alloc]; have := HS1.out; omega) ho hn2); (have HE2x := hide (show WLo wc.heap.size wB vB (cB :: (ws ++ [[]])) from hq)); (have HW2 := hide (str_old (Own.alloc HW1.out _) hc (fun k e => HE1.out.new k e) (fun g hg => Own.lt HW.out.own hg))); (have HG2 := hide (gr_old (only_alloc HG1.out _) hc (fun k e => Nat.le_trans HGs.out (HE1.out.new k e)))); (have hsz2 := hc.size); rw [World.size_alloc] at hsz2; (have ho2 : Own wB 9 1 vB (ws.length + 1 + 1) ((cB :: (ws ++ [[]])).map sv) 0 := (show StrS wB vB (cB :: (ws ++ [[]])) from hq.own).cast2 (by simp)); (obtain ⟨aBx, cBx, rfl, _, _⟩ := Own.form ho2); clear ho hc hn2 hq ho2))
      obtain ⟨w5, hw5⟩ : ∃ x, x = wB := ⟨_, rfl⟩
      subst hw5
      have HW3 := hide HW2.out
      have HG3 := hide HG2.out
      have HX0 := hide HE2x.out.own
      have hHE := HE1.out
      clear hHE hsz2
      have HE := hide (WLo.start w5)
      have HWe := hide (show StrS (w5.alloc (.cells #[] 9)) (.slice a4 (ws.length + 1) c4) (cB :: ws) from Own.alloc HW3.out _)
      have HXe := hide (Own.alloc HX0.out (.cells #[] 9))
      have HGe := hide (only_alloc HG3.out (.cells #[] 9))
      have HGs := hide (show w.heap.size ≤ w5.heap.size from HG3.out.size)
      go_upto_region 18 with (first | (at_builtin; refine wpList_appAt 9 (.string ⟨#[]⟩) 1 16 Try.underlying29 infoStr rfl (.slice (some ⟨w5.heap.size, 0, none⟩) 0 0) 0 [] 0 _ (ws.length + 1) ((cB :: ws).map sv) rfl rfl HE.out.own (by omega) (srcWs HWe.out) (by unfold maxLen; omega) (by omega) ?_; intro vA wA ho hc hn2 _; (have hq := WLo.apps (us := cB :: ws) HE.out (Nat.le_of_lt (by rw [World.size_alloc]; omega)) ho hn2); (have HE1 := hide (show WLo w5.heap.size wA vA (cB :: ws) from hq)); (have HW1 := hide (str_old HWe.out hc (fun k e => HE.out.new k e) (fun g hg => Own.lt HW3.out hg)));(have HX1 := hide (str_old HXe.out hc (fun k e => HE.out.new k e) (fun g hg => Own.lt HX0.out hg))); (have HG1 := hide (gr_old HGe.out hc (fun k e => Nat.le_trans HGs.out (HE.out.new k e)))); (have hsz1 := hc.size); rw [World.size_alloc] at hsz1; (have HS1 := hide (show w5.heap.size ≤ wA.heap.size by omega)); (have ho2 : Own wA 9 1 vA (ws.length + 1) ((cB :: ws).map sv) 0 := hq.own); (obtain ⟨aA, cA, rfl, _, _⟩ := Own.form ho2); clear ho hc hn2 hq ho2 hsz1) | (at_builtin; refine wpList_appAt 9 (.string ⟨#[]⟩) 1 16 Try.underlying29 infoStr rfl (.slice aA (ws.length + 1) cA) (ws.length + 1) ((cB :: ws).map sv) 0 _ 1 [sv [97, 32, 98]] rfl rfl (Own.alloc HE1.out.own _) (by omega) (srcS _ _ [97, 32, 98] rfl) (by unfold maxLen; omega) (by omega) ?_; intro vB wB ho hc hn2 _; (have hq := WLo.apps (us := [[97, 32, 98]]) (W := wA.alloc (.cells #[.string ⟨([97, 32, 98] : List UInt8).toArray⟩] 9)) (⟨Own.alloc HE1.out.own _, HE1.out.new⟩) (by rw [World.size_alloc]; have := HS1.out; omega) ho hn2); (have HE2y := hide (show WLo w5.heap.size wB vB (cB :: (ws ++ [[97, 32, 98]])) from hq)); (have HW2 := hide (str_old (Own.alloc HW1.out _) hc (fun k e => HE1.out.new k e) (fun g hg => Own.lt HW3.out hg)));(have HX2 := hide (str_old (Own.alloc HX1.out _) hc (fun k e => HE1.out.new k e) (fun g hg => Own.lt HX0.out hg))); (have HG2 := hide (gr_old (only_alloc HG1.out _) hc (fun k e => Nat.le_trans HGs.out (HE1.out.new k e)))); (have hsz2 := hc.size); rw [World.size_alloc] at hsz2; (have ho2 : Own wB 9 1 vB (ws.length + 1 + 1) ((cB :: (ws ++ [[97, 32, 98]])).map sv) 0 := (show StrS wB vB (cB :: (ws ++ [[97, 32, 98]])) from hq.own).cast2 (by simp)); (obtain ⟨aBy, cBy, rfl, _, _⟩ := Own.form ho2); clear ho hc hn2 hq ho2))
      have hwsl : ∀ t ∈ cB :: ws, t.length ≤ 1000 := fun t ht => by
        rcases List.mem_cons.1 ht with rfl | ht
        · decide
        · exact Nat.le_trans (HOK.out t ht).2 (by decide)
      have hadd : ∀ u : List UInt8, u.length ≤ 1000 → ∀ t ∈ cB :: (ws ++ [u]), t.length ≤ 1000 := fun u hu t ht => by
        rcases List.mem_cons.1 ht with rfl | ht
        · decide
        · rcases List.mem_append.1 ht with ht | ht
          · exact hwsl t (List.mem_cons_of_mem _ ht)
          · rw [List.mem_singleton] at ht; subst ht; exact hu
      have HQ1 := hide (by have := print_words_any HW2.out (by simp only [List.length_cons]; omega) hwsl; rw [HP1.out] at this; exact this)
      have HQ2 := hide (fun W (h : StrS W (.slice aBx (ws.length + 1 + 1) cBx) (cB :: (ws ++ [[]]))) => (by have := print_words_any h (by simp only [List.length_cons, List.length_append, List.length_nil]; omega) (hadd [] (by decide)); rw [HP2.out] at this; exact this))
      have HQ3 := hide (fun W (h : StrS W (.slice aBy (ws.length + 1 + 1) cBy) (cB :: (ws ++ [[97, 32, 98]]))) => (by have := print_words_any h (by simp only [List.length_cons, List.length_append, List.length_nil]; omega) (hadd [97, 32, 98] (by decide)); rw [HP3.out] at this; exact this))
      have HB2 := hide HX2.out
      have HB3 := hide HE2y.out.own
      clear hwsl hadd hsz2
      unfold sv
      go_wp2_with fail
      refine HQ1.out.mono ?_
      rintro e wp1 ⟨rfl, g1⟩
      have hg1 := none_trans (only_alloc (only_refl wB none) _) g1
      have HB2 := hide (old_own hg1 HB2.out)
      have HB3 := hide (old_own hg1 HB3.out)
      have HG4 := hide (none_trans HG2.out hg1)
      have HQ2 := hide (HQ2.out wp1 HB2.out)
      clear g1 hg1
      go_wp2_with fail
      refine HQ2.out.mono ?_
      rintro e wp2 ⟨rfl, g1⟩
      have hg1 := none_trans (only_alloc (only_refl wp1 none) _) g1
      have HB3 := hide (old_own hg1 HB3.out)
      have HG5 := hide (none_trans HG4.out hg1)
      have HQ3 := hide (HQ3.out wp2 HB3.out)
      clear g1 hg1
      go_wp2_with fail
      refine HQ3.out.mono ?_
      rintro e wp3 ⟨rfl, g1⟩
      have hg1 := none_trans (only_alloc (only_refl wp2 none) _) g1
      have HG6 := hide (none_trans HG5.out hg1)
      clear g1 hg1
      go_wp2_with fail
      go_ret
      exact ⟨rfl, HG6.out⟩
end Go.Proofs.Ytdhfhphbkfgamaa
