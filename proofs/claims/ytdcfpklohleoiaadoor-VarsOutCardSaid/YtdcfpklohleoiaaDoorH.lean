/- Name, Set, Mark and Get. -/
import Derived.Test.YtdcfpklohleoiaaDoorG
namespace Go.Proofs.YtdcfpklohleoiaaDoor
open Go.RowKit
set_option maxRecDepth 100000

theorem or32_all : ∀ n : Fin 256, bits .or .u8 (n.val : Int) 32 = ((n.val ||| 32 : Nat) : Int) ∧ (97 ≤ n.val ||| 32 ∧ n.val ||| 32 ≤ 122 ↔ (97 ≤ n.val ∧ n.val ≤ 122) ∨ (65 ≤ n.val ∧ n.val ≤ 90)) := by decide +kernel
theorem or32 (c : UInt8) : ∃ X : Nat, bits .or .u8 (c.toNat : Int) 32 = (X : Int) ∧ (97 ≤ X ∧ X ≤ 122 ↔ (97 ≤ c.toNat ∧ c.toNat ≤ 122) ∨ (65 ≤ c.toNat ∧ c.toNat ≤ 90)) := ⟨_, or32_all ⟨c.toNat, c.toNat_lt⟩⟩
theorem nm_yes {f : Bool} {c : UInt8} {r : List UInt8} (h : (letB c || (!f && digB c)) = true) : nmGo f (c :: r) = nmGo false r + 1 := by
  show (if _ then _ else _) = _
  rw [if_pos h]
theorem nm_no {f : Bool} {c : UInt8} {r : List UInt8} (h : ¬ (letB c || (!f && digB c)) = true) : nmGo f (c :: r) = 0 := by
  show (if _ then _ else _) = _
  rw [if_neg h]

set_option maxHeartbeats 4000000 in
theorem name_any (s : List UInt8) (w : World) (hs : s.length ≤ 9223372036854775807) : Calls Tryd.prog 22 #[sv s] w fun e w' => e = .returned (.bool (nameB s)) ∧ w.grownBy w' none := by
  have h1 := sz s
  unfold sv
  go_enter Tryd.func22, Tryd.ntmps22
  go_wp2_with fail
  go_loopw [7] (fun v7 wr => ∃ k : Nat, v7 = .int .i64 k ∧ k ≤ s.length ∧ nmGo true s = k + nmGo (decide (k = 0)) (s.drop k) ∧ wr = w) (fun v7 _ => s.length - (intOf v7).toNat)
  case atStart => exact ⟨0, rfl, Nat.zero_le _, by simp, rfl⟩
  case round =>
    obtain ⟨k, rfl, hk, hinv, rfl⟩ := hrel
    by_cases hlt : k < s.length
    · have q0 : decide ((k : Int) < (s.length : Int)) = true := decide_eq_true (by omega)
      have hat := str_at' s k hlt
      have hib : (0 : Int) ≤ k ∧ (k : Int) < (s.length : Int) := by omega
      have hdr := drop_at hlt
      obtain ⟨c, hc⟩ : ∃ c, s[k] = c := ⟨_, rfl⟩
      rw [hc] at hat hdr
      rw [hdr] at hinv
      obtain ⟨X, hX, hXi⟩ := or32 c
      have yes : (letB c || (!decide (k = 0) && digB c)) = true → nmGo true s = (k + 1) + nmGo (decide (k + 1 = 0)) (s.drop (k + 1)) := fun h => by
        rw [hinv, nm_yes h, show decide (k + 1 = 0) = false from rfl]; omega
      have no : ¬ (letB c || (!decide (k = 0) && digB c)) = true → nameB s = false := fun h => by
        rw [nm_no h] at hinv
        unfold nameB
        rw [decide_eq_false]
        omega
      have hlB : letB c = true ↔ (97 ≤ X ∧ X ≤ 122) ∨ c.toNat = 95 := by
        unfold letB
        simp only [Bool.or_eq_true, decide_eq_true_eq]
        rw [hXi]
      clear hc hdr hinv hXi
      by_cases a1 : 97 ≤ X
      · have b1 : decide ((97 : Int) ≤ (X : Int)) = true := decide_eq_true (by omega)
        by_cases a2 : X ≤ 122
        · have b2 : decide ((X : Int) ≤ 122) = true := decide_eq_true (by omega)
          have Hy := hide (yes (by rw [hlB.2 (.inl ⟨a1, a2⟩)]; rfl))
          clear yes no hlB
          go_wp2_with fail
          go_roundw
          case rel => exact ⟨k + 1, by go_num, by omega, Hy.out, trivial⟩
          case measure => simp [intOf]; omega
        · have b2 : decide ((X : Int) ≤ 122) = false := decide_eq_false (by omega)
          by_cases a95 : c.toNat = 95
          · have b95 : ((c.toNat : Int) == 95) = true := by rw [beq_iff_eq]; omega
            have Hy := hide (yes (by rw [hlB.2 (.inr a95)]; rfl))
            clear yes no hlB
            go_wp2_with fail
            go_roundw
            case rel => exact ⟨k + 1, by go_num, by omega, Hy.out, trivial⟩
            case measure => simp [intOf]; omega
          have b95 : ((c.toNat : Int) == 95) = false := by rw [beq_eq_false_iff_ne]; omega
          have hl0 : letB c = false := by
            cases hh : letB c with
            | false => rfl
            | true => exact absurd (hlB.1 hh) (by omega)
          by_cases ak : k = 0
          · subst ak
            have bk : decide ((0 : Int) < ((0 : Nat) : Int)) = false := by decide
            have Hno := hide (no (by rw [hl0]; simp))
            clear yes no hlB
            go_wp2_with fail
            go_ret
            exact ⟨by rw [Hno.out]; rfl, only_refl _ none⟩
          have bk : decide ((0 : Int) < (k : Int)) = true := decide_eq_true (by omega)
          have bk2 : decide (k = 0) = false := decide_eq_false ak
          by_cases a48 : 48 ≤ c.toNat
          · have b48 : decide ((48 : Int) ≤ (c.toNat : Int)) = true := decide_eq_true (by omega)
            by_cases a57 : c.toNat ≤ 57
            · have b57 : decide ((c.toNat : Int) ≤ 57) = true := decide_eq_true (by omega)
              have hd : digB c = true := decide_eq_true ⟨a48, a57⟩
              have Hy := hide (yes (by rw [hl0, bk2, hd]; rfl))
              clear yes no hlB
              go_wp2_with fail
              go_roundw
              case rel => exact ⟨k + 1, by go_num, by omega, Hy.out, trivial⟩
              case measure => simp [intOf]; omega
            · have b57 : decide ((c.toNat : Int) ≤ 57) = false := decide_eq_false (by omega)
              have hd : digB c = false := decide_eq_false (fun h => a57 h.2)
              have Hno := hide (no (by rw [hl0, bk2, hd]; simp))
              clear yes no hlB
              go_wp2_with fail
              go_ret
              exact ⟨by rw [Hno.out]; rfl, only_refl _ none⟩
          · have b48 : decide ((48 : Int) ≤ (c.toNat : Int)) = false := decide_eq_false (by omega)
            have hd : digB c = false := decide_eq_false (fun h => a48 h.1)
            have Hno := hide (no (by rw [hl0, bk2, hd]; simp))
            clear yes no hlB
            go_wp2_with fail
            go_ret
            exact ⟨by rw [Hno.out]; rfl, only_refl _ none⟩
      · have b1 : decide ((97 : Int) ≤ (X : Int)) = false := decide_eq_false (by omega)
        by_cases a95 : c.toNat = 95
        · have b95 : ((c.toNat : Int) == 95) = true := by rw [beq_iff_eq]; omega
          have Hy := hide (yes (by rw [hlB.2 (.inr a95)]; rfl))
          clear yes no hlB
          go_wp2_with fail
          go_roundw
          case rel => exact ⟨k + 1, by go_num, by omega, Hy.out, trivial⟩
          case measure => simp [intOf]; omega
        have b95 : ((c.toNat : Int) == 95) = false := by rw [beq_eq_false_iff_ne]; omega
        have hl0 : letB c = false := by
          cases hh : letB c with
          | false => rfl
          | true => exact absurd (hlB.1 hh) (by omega)
        by_cases ak : k = 0
        · subst ak
          have bk : decide ((0 : Int) < ((0 : Nat) : Int)) = false := by decide
          have Hno := hide (no (by rw [hl0]; simp))
          clear yes no hlB
          go_wp2_with fail
          go_ret
          exact ⟨by rw [Hno.out]; rfl, only_refl _ none⟩
        have bk : decide ((0 : Int) < (k : Int)) = true := decide_eq_true (by omega)
        have bk2 : decide (k = 0) = false := decide_eq_false ak
        by_cases a48 : 48 ≤ c.toNat
        · have b48 : decide ((48 : Int) ≤ (c.toNat : Int)) = true := decide_eq_true (by omega)
          by_cases a57 : c.toNat ≤ 57
          · have b57 : decide ((c.toNat : Int) ≤ 57) = true := decide_eq_true (by omega)
            have hd : digB c = true := decide_eq_true ⟨a48, a57⟩
            have Hy := hide (yes (by rw [hl0, bk2, hd]; rfl))
            clear yes no hlB
            go_wp2_with fail
            go_roundw
            case rel => exact ⟨k + 1, by go_num, by omega, Hy.out, trivial⟩
            case measure => simp [intOf]; omega
          · have b57 : decide ((c.toNat : Int) ≤ 57) = false := decide_eq_false (by omega)
            have hd : digB c = false := decide_eq_false (fun h => a57 h.2)
            have Hno := hide (no (by rw [hl0, bk2, hd]; simp))
            clear yes no hlB
            go_wp2_with fail
            go_ret
            exact ⟨by rw [Hno.out]; rfl, only_refl _ none⟩
        · have b48 : decide ((48 : Int) ≤ (c.toNat : Int)) = false := decide_eq_false (by omega)
          have hd : digB c = false := decide_eq_false (fun h => a48 h.1)
          have Hno := hide (no (by rw [hl0, bk2, hd]; simp))
          clear yes no hlB
          go_wp2_with fail
          go_ret
          exact ⟨by rw [Hno.out]; rfl, only_refl _ none⟩
    · obtain rfl : k = s.length := by omega
      have q0 : decide ((s.length : Int) < (s.length : Int)) = false := decide_eq_false (by omega)
      have hn : nmGo true s = s.length := by rw [hinv, List.drop_eq_nil_of_le (Nat.le_refl _)]; show s.length + 0 = _; omega
      clear hinv
      by_cases he : s = []
      · subst he
        go_wp2_with fail
        go_ret
        exact ⟨rfl, only_refl _ none⟩
      · have hN : nameB s = true := by
          unfold nameB
          rw [decide_eq_true]
          have : 0 < s.length := by cases s with | nil => exact absurd rfl he | cons => simp
          omega
        have hem : s.isEmpty = false := by cases s with | nil => exact absurd rfl he | cons => rfl
        have HN := hide hN
        clear hN he hn
        go_wp2_with fail
        go_ret
        exact ⟨by rw [HN.out]; rfl, only_refl _ none⟩

/-- An env of these, and a number. -/
def EnvPost (w : World) (R : List V × Int) (e : Ending) (w' : World) : Prop := ∃ v', e = .returned (.tuple #[envV v', .int .i64 R.2]) ∧ Own w' 35 4 v' R.1.length (vcs R.1) 0 ∧ w.grownBy w' none
theorem vcs_setv (L : List V) (i : Nat) (hi : i < L.length) (x : List UInt8) : (vcs L).set (i * 4 + 1) (sv x) = vcs (L.set i { L[i] with v := x }) := by
  induction L generalizing i with
  | nil => simp at hi
  | cons a l ih =>
    cases i with
    | zero => rfl
    | succ i =>
      rw [vcs_cons, List.set_cons_succ, vcs_cons]
      simp only [List.getElem_cons_succ]
      rw [← ih i (by simpa using hi), List.set_append_right _ _ (by show 4 ≤ _; omega)]
      congr 2
      show (i + 1) * 4 + 1 - 4 = _; omega
theorem vcs_setx (L : List V) (i : Nat) (hi : i < L.length) (x r : Bool) : ((vcs L).set (i * 4 + 2) (.bool x)).set (i * 4 + 3) (.bool r) = vcs (L.set i { L[i] with x := x, r := r }) := by
  induction L generalizing i with
  | nil => simp at hi
  | cons a l ih =>
    cases i with
    | zero => rfl
    | succ i =>
      rw [vcs_cons, List.set_cons_succ, vcs_cons]
      simp only [List.getElem_cons_succ]
      rw [← ih i (by simpa using hi), List.set_append_right _ _ (by show 4 ≤ _; omega), List.set_append_right _ _ (by show 4 ≤ _; omega)]
      rw [show (i + 1) * 4 + 2 - a.cells.length = i * 4 + 2 by show (i + 1) * 4 + 2 - 4 = _; omega, show (i + 1) * 4 + 3 - a.cells.length = i * 4 + 3 by show (i + 1) * 4 + 3 - 4 = _; omega]

theorem mark_plain (vs : List V) (hs : Srt vs) (m : List UInt8) (ex ro : Bool) : ∃ L ix U, putF vs (lookV vs m) = L ∧ idxF m vs = ix ∧ lookV vs m = U ∧ ix < L.length ∧ putF vs { U with x := U.x || ex, r := U.r || ro } = L.set ix { U with x := U.x || ex, r := U.r || ro } ∧ ((vcs L).set (ix * 4 + 2) (.bool (U.x || ex))).set (ix * 4 + 3) (.bool (U.r || ro)) = vcs (L.set ix { U with x := U.x || ex, r := U.r || ro }) ∧ (vcs L)[ix * 4 + 2]? = some (.bool U.x) ∧ (vcs L)[ix * 4 + 3]? = some (.bool U.r) := by
  obtain ⟨p1, p2, p3⟩ := put_place hs m
  refine ⟨_, _, _, rfl, rfl, rfl, p1, p3 _ (lookV_n vs m), ?_, ?_, ?_⟩
  · rw [vcs_setx _ _ p1, p2 p1]
  · rw [vcs_get _ _ 2 p1 (by omega), p2 p1]; rfl
  · rw [vcs_get _ _ 3 p1 (by omega), p2 p1]; rfl

set_option maxHeartbeats 4000000 in
theorem set_any (vs : List V) (m val : List UInt8) (v : Value) (w : World) (hw : WF vs) (ho : Own w 35 4 v vs.length (vcs vs) 0) (hm : m.length ≤ 9223372036854775807) (hval : val.length ≤ 9223372036854775807) :
    Calls Tryd.prog 12 #[envV v, sv m, sv val] w (EnvPost w (setF vs m val)) := by
  have hl := hw.len
  have h1 := sz m
  have h2 := sz val
  have Hn := hide (fun W => name_any m W hm)
  have Hx := hide (fun W (hW : Own W 35 4 v vs.length (vcs vs) 0) => fixed_any vs m v W hw hW)
  have Hf := hide (fun W (hW : Own W 35 4 v vs.length (vcs vs) 0) (h : foundB vs m = false) (h' : 40 ≤ vs.length) => one_full vs m v W hw hW h h')
  have Ho := hide (fun W (hW : Own W 35 4 v vs.length (vcs vs) 0) (h : ¬ (foundB vs m = false ∧ 40 ≤ vs.length)) => one_any vs m v W hw hW h)
  have HW := hide hw
  have HO := hide ho
  obtain ⟨a, cap, rfl, _, _⟩ := ho.form
  unfold sv at Hn
  unfold sv envV at Hx Hf Ho
  obtain ⟨R, hR⟩ : ∃ R, setF vs m val = R := ⟨_, rfl⟩
  rw [hR]
  have HR := hide hR
  clear ho hw hR
  unfold sv envV
  cases hN : nameB m with
  | false =>
    have Hn := hide (fun W => by have := Hn.out W; rw [hN] at this; exact this)
    have hr : R = (vs, 1) := by rw [← HR.out]; unfold setF; rw [if_pos hN]
    have HN := hide hN
    clear hN
    subst hr
    go_enter Tryd.func12, Tryd.ntmps12
    go_wp2_with fail
    refine (Hn.out _).mono ?_
    rintro e w1 ⟨rfl, g1⟩
    have hG := none_trans (only_alloc (only_alloc (only_refl w none) (.cells #[.slice a vs.length cap, .slice none 0 0, .string ⟨#[]⟩] 27)) (.cells #[.slice none 0 0, .slice none 0 0, .string ⟨#[]⟩] 27)) g1
    have hb3 := Blk.grown ((Blk.new w 27 #[.slice a vs.length cap, .slice none 0 0, .string ⟨#[]⟩]).alloc (.cells #[.slice none 0 0, .slice none 0 0, .string ⟨#[]⟩] 27)) g1 (by simp)
    have hb6 := Blk.grown (Blk.new (w.alloc (.cells #[.slice a vs.length cap, .slice none 0 0, .string ⟨#[]⟩] 27)) 27 #[.slice none 0 0, .slice none 0 0, .string ⟨#[]⟩]) g1 (by simp)
    rw [World.size_alloc] at hb6
    have HB3 := hide hb3
    have HB6 := hide hb6
    have HG := hide hG
    have HO1 := hide (HO.out.none_ hG)
    clear hG g1 hb3 hb6
    obtain ⟨d0, d1, d2⟩ := res27 HB3.out
    obtain ⟨e0, e1, e2⟩ := res27 HB6.out
    have z0 := Blk.frozen HB6.out 0
    have z1 := Blk.frozen HB6.out 1
    have z2 := Blk.frozen HB6.out 2
    have lb3 := Blk.lt HB3.out
    have lb6 := Blk.lt HB6.out
    go_wp2_with fail
    have hff := fin27 HB6.out (.slice a vs.length cap) (.slice none 0 0) (.string ⟨#[]⟩)
    have hgg := gr27 HG.out (b := w.heap.size + 1) (by omega) (.slice a vs.length cap) (.slice none 0 0) (.string ⟨#[]⟩)
    have hoo := far27 HO1.out (b := w.heap.size + 1) (fun e => by have := HO.out.lt e; omega) (.slice a vs.length cap) (.slice none 0 0) (.string ⟨#[]⟩)
    generalize ((w1.setCell ⟨w.heap.size + 1, 0, none⟩ (.slice a vs.length cap)).setCell ⟨w.heap.size + 1, 1, none⟩ (.slice none 0 0)).setCell ⟨w.heap.size + 1, 2, none⟩ (.string ⟨#[]⟩) = W9 at hff hgg hoo ⊢
    obtain ⟨f0, f1, f2⟩ := res27 hff
    refine bodyPost_ret (v := .tuple #[.agg #[.slice a vs.length cap, .slice none 0 0, .string ⟨#[]⟩], .int .i64 1]) (by simp [results, Tryd.results12, go_sem, f0, f1, f2]) rfl ?_
    exact ⟨_, rfl, hoo, hgg⟩
  | true =>
    have Hn := hide (fun W => by have := Hn.out W; rw [hN] at this; exact this)
    have HN := hide hN
    clear hN
    cases hX : (lookV vs m).r with
    | true =>
      have Hx := hide (fun W hW => by have := Hx.out W hW; rw [hX] at this; exact this)
      have hr : R = (vs, 21) := by rw [← HR.out]; unfold setF; rw [if_neg (by rw [HN.out]; exact Bool.noConfusion), if_pos hX]
      clear hX
      subst hr
      go_enter Tryd.func12, Tryd.ntmps12
      go_wp2_with fail
      refine (Hn.out _).mono ?_
      rintro e w1 ⟨rfl, g1⟩
      have hG := none_trans (only_alloc (only_alloc (only_refl w none) (.cells #[.slice a vs.length cap, .slice none 0 0, .string ⟨#[]⟩] 27)) (.cells #[.slice none 0 0, .slice none 0 0, .string ⟨#[]⟩] 27)) g1
      have hb3 := Blk.grown ((Blk.new w 27 #[.slice a vs.length cap, .slice none 0 0, .string ⟨#[]⟩]).alloc (.cells #[.slice none 0 0, .slice none 0 0, .string ⟨#[]⟩] 27)) g1 (by simp)
      have hb6 := Blk.grown (Blk.new (w.alloc (.cells #[.slice a vs.length cap, .slice none 0 0, .string ⟨#[]⟩] 27)) 27 #[.slice none 0 0, .slice none 0 0, .string ⟨#[]⟩]) g1 (by simp)
      rw [World.size_alloc] at hb6
      have HB3 := hide hb3
      have HB6 := hide hb6
      have HG := hide hG
      have HO1 := hide (HO.out.none_ hG)
      clear hG g1 hb3 hb6
      obtain ⟨d0, d1, d2⟩ := res27 HB3.out
      obtain ⟨e0, e1, e2⟩ := res27 HB6.out
      have z0 := Blk.frozen HB6.out 0
      have z1 := Blk.frozen HB6.out 1
      have z2 := Blk.frozen HB6.out 2
      have lb3 := Blk.lt HB3.out
      have lb6 := Blk.lt HB6.out
      go_wp2_with fail
      refine (Hx.out _ HO1.out).mono ?_
      rintro e w2 ⟨rfl, g2⟩
      have HB3b := hide (Blk.grown HB3.out g2 (by simp))
      have HB6b := hide (Blk.grown HB6.out g2 (by simp))
      have HGb := hide (none_trans HG.out g2)
      have HO1b := hide (HO1.out.none_ g2)
      clear g2 d0 d1 d2 e0 e1 e2 z0 z1 z2 lb3 lb6
      obtain ⟨d0, d1, d2⟩ := res27 HB3b.out
      obtain ⟨e0, e1, e2⟩ := res27 HB6b.out
      have z0 := Blk.frozen HB6b.out 0
      have z1 := Blk.frozen HB6b.out 1
      have z2 := Blk.frozen HB6b.out 2
      have lb3 := Blk.lt HB3b.out
      have lb6 := Blk.lt HB6b.out
      go_wp2_with fail
      have hff := fin27 HB6b.out (.slice a vs.length cap) (.slice none 0 0) (.string ⟨#[]⟩)
      have hgg := gr27 HGb.out (b := w.heap.size + 1) (by omega) (.slice a vs.length cap) (.slice none 0 0) (.string ⟨#[]⟩)
      have hoo := far27 HO1b.out (b := w.heap.size + 1) (fun e => by have := HO.out.lt e; omega) (.slice a vs.length cap) (.slice none 0 0) (.string ⟨#[]⟩)
      generalize ((w2.setCell ⟨w.heap.size + 1, 0, none⟩ (.slice a vs.length cap)).setCell ⟨w.heap.size + 1, 1, none⟩ (.slice none 0 0)).setCell ⟨w.heap.size + 1, 2, none⟩ (.string ⟨#[]⟩) = W9 at hff hgg hoo ⊢
      obtain ⟨f0, f1, f2⟩ := res27 hff
      refine bodyPost_ret (v := .tuple #[.agg #[.slice a vs.length cap, .slice none 0 0, .string ⟨#[]⟩], .int .i64 21]) (by simp [results, Tryd.results12, go_sem, f0, f1, f2]) rfl ?_
      exact ⟨_, rfl, hoo, hgg⟩
    | false =>
      have Hx := hide (fun W hW => by have := Hx.out W hW; rw [hX] at this; exact this)
      have HX := hide hX
      clear hX
      by_cases hV : 1024 < val.length
      · have q5 : decide ((1024 : Int) < (val.length : Int)) = true := decide_eq_true (by omega)
        have hr : R = (vs, 10) := by rw [← HR.out]; unfold setF; rw [if_neg (by rw [HN.out]; exact Bool.noConfusion), if_neg (by rw [HX.out]; exact Bool.noConfusion), if_pos hV]
        subst hr
        go_enter Tryd.func12, Tryd.ntmps12
        go_wp2_with fail
        refine (Hn.out _).mono ?_
        rintro e w1 ⟨rfl, g1⟩
        have hG := none_trans (only_alloc (only_alloc (only_refl w none) (.cells #[.slice a vs.length cap, .slice none 0 0, .string ⟨#[]⟩] 27)) (.cells #[.slice none 0 0, .slice none 0 0, .string ⟨#[]⟩] 27)) g1
        have hb3 := Blk.grown ((Blk.new w 27 #[.slice a vs.length cap, .slice none 0 0, .string ⟨#[]⟩]).alloc (.cells #[.slice none 0 0, .slice none 0 0, .string ⟨#[]⟩] 27)) g1 (by simp)
        have hb6 := Blk.grown (Blk.new (w.alloc (.cells #[.slice a vs.length cap, .slice none 0 0, .string ⟨#[]⟩] 27)) 27 #[.slice none 0 0, .slice none 0 0, .string ⟨#[]⟩]) g1 (by simp)
        rw [World.size_alloc] at hb6
        have HB3 := hide hb3
        have HB6 := hide hb6
        have HG := hide hG
        have HO1 := hide (HO.out.none_ hG)
        clear hG g1 hb3 hb6
        obtain ⟨d0, d1, d2⟩ := res27 HB3.out
        obtain ⟨e0, e1, e2⟩ := res27 HB6.out
        have z0 := Blk.frozen HB6.out 0
        have z1 := Blk.frozen HB6.out 1
        have z2 := Blk.frozen HB6.out 2
        have lb3 := Blk.lt HB3.out
        have lb6 := Blk.lt HB6.out
        go_wp2_with fail
        refine (Hx.out _ HO1.out).mono ?_
        rintro e w2 ⟨rfl, g2⟩
        have HB3b := hide (Blk.grown HB3.out g2 (by simp))
        have HB6b := hide (Blk.grown HB6.out g2 (by simp))
        have HGb := hide (none_trans HG.out g2)
        have HO1b := hide (HO1.out.none_ g2)
        clear g2 d0 d1 d2 e0 e1 e2 z0 z1 z2 lb3 lb6
        obtain ⟨d0, d1, d2⟩ := res27 HB3b.out
        obtain ⟨e0, e1, e2⟩ := res27 HB6b.out
        have z0 := Blk.frozen HB6b.out 0
        have z1 := Blk.frozen HB6b.out 1
        have z2 := Blk.frozen HB6b.out 2
        have lb3 := Blk.lt HB3b.out
        have lb6 := Blk.lt HB6b.out
        go_wp2_with fail
        have hff := fin27 HB6b.out (.slice a vs.length cap) (.slice none 0 0) (.string ⟨#[]⟩)
        have hgg := gr27 HGb.out (b := w.heap.size + 1) (by omega) (.slice a vs.length cap) (.slice none 0 0) (.string ⟨#[]⟩)
        have hoo := far27 HO1b.out (b := w.heap.size + 1) (fun e => by have := HO.out.lt e; omega) (.slice a vs.length cap) (.slice none 0 0) (.string ⟨#[]⟩)
        generalize ((w2.setCell ⟨w.heap.size + 1, 0, none⟩ (.slice a vs.length cap)).setCell ⟨w.heap.size + 1, 1, none⟩ (.slice none 0 0)).setCell ⟨w.heap.size + 1, 2, none⟩ (.string ⟨#[]⟩) = W9 at hff hgg hoo ⊢
        obtain ⟨f0, f1, f2⟩ := res27 hff
        refine bodyPost_ret (v := .tuple #[.agg #[.slice a vs.length cap, .slice none 0 0, .string ⟨#[]⟩], .int .i64 10]) (by simp [results, Tryd.results12, go_sem, f0, f1, f2]) rfl ?_
        exact ⟨_, rfl, hoo, hgg⟩
      · have q5 : decide ((1024 : Int) < (val.length : Int)) = false := decide_eq_false (by omega)
        by_cases hF : foundB vs m = false ∧ 40 ≤ vs.length
        · have hr : R = (vs, 9) := by rw [← HR.out]; unfold setF; rw [if_neg (by rw [HN.out]; exact Bool.noConfusion), if_neg (by rw [HX.out]; exact Bool.noConfusion), if_neg hV, if_pos hF]
          have Hf2 := hide (fun W hW => Hf.out W hW hF.1 hF.2)
          clear hF
          subst hr
          go_enter Tryd.func12, Tryd.ntmps12
          go_wp2_with fail
          refine (Hn.out _).mono ?_
          rintro e w1 ⟨rfl, g1⟩
          have hG := none_trans (only_alloc (only_alloc (only_refl w none) (.cells #[.slice a vs.length cap, .slice none 0 0, .string ⟨#[]⟩] 27)) (.cells #[.slice none 0 0, .slice none 0 0, .string ⟨#[]⟩] 27)) g1
          have hb3 := Blk.grown ((Blk.new w 27 #[.slice a vs.length cap, .slice none 0 0, .string ⟨#[]⟩]).alloc (.cells #[.slice none 0 0, .slice none 0 0, .string ⟨#[]⟩] 27)) g1 (by simp)
          have hb6 := Blk.grown (Blk.new (w.alloc (.cells #[.slice a vs.length cap, .slice none 0 0, .string ⟨#[]⟩] 27)) 27 #[.slice none 0 0, .slice none 0 0, .string ⟨#[]⟩]) g1 (by simp)
          rw [World.size_alloc] at hb6
          have HB3 := hide hb3
          have HB6 := hide hb6
          have HG := hide hG
          have HO1 := hide (HO.out.none_ hG)
          clear hG g1 hb3 hb6
          obtain ⟨d0, d1, d2⟩ := res27 HB3.out
          obtain ⟨e0, e1, e2⟩ := res27 HB6.out
          have z0 := Blk.frozen HB6.out 0
          have z1 := Blk.frozen HB6.out 1
          have z2 := Blk.frozen HB6.out 2
          have lb3 := Blk.lt HB3.out
          have lb6 := Blk.lt HB6.out
          go_wp2_with fail
          refine (Hx.out _ HO1.out).mono ?_
          rintro e w2 ⟨rfl, g2⟩
          have HB3b := hide (Blk.grown HB3.out g2 (by simp))
          have HB6b := hide (Blk.grown HB6.out g2 (by simp))
          have HGb := hide (none_trans HG.out g2)
          have HO1b := hide (HO1.out.none_ g2)
          clear g2 d0 d1 d2 e0 e1 e2 z0 z1 z2 lb3 lb6
          obtain ⟨d0, d1, d2⟩ := res27 HB3b.out
          obtain ⟨e0, e1, e2⟩ := res27 HB6b.out
          have z0 := Blk.frozen HB6b.out 0
          have z1 := Blk.frozen HB6b.out 1
          have z2 := Blk.frozen HB6b.out 2
          have lb3 := Blk.lt HB3b.out
          have lb6 := Blk.lt HB6b.out
          go_wp2_with fail
          refine (Hf2.out _ HO1b.out).mono ?_
          rintro e w3 ⟨rfl, g2⟩
          have HB3c := hide (Blk.grown HB3b.out g2 (by simp))
          have HB6c := hide (Blk.grown HB6b.out g2 (by simp))
          have HGc := hide (none_trans HGb.out g2)
          have HO1c := hide (HO1b.out.none_ g2)
          clear g2 d0 d1 d2 e0 e1 e2 z0 z1 z2 lb3 lb6
          obtain ⟨d0, d1, d2⟩ := res27 HB3c.out
          obtain ⟨e0, e1, e2⟩ := res27 HB6c.out
          have z0 := Blk.frozen HB6c.out 0
          have z1 := Blk.frozen HB6c.out 1
          have z2 := Blk.frozen HB6c.out 2
          have lb3 := Blk.lt HB3c.out
          have lb6 := Blk.lt HB6c.out
          go_wp2_with fail
          have hff := (fin27 HB6c.out (.slice a vs.length cap) (.slice none 0 0) (.string ⟨#[]⟩)).alloc (.cells #[.slice a vs.length cap, .slice none 0 0, .string ⟨#[]⟩] 27)
          have hgg := only_alloc (gr27 HGc.out (b := w.heap.size + 1) (by omega) (.slice a vs.length cap) (.slice none 0 0) (.string ⟨#[]⟩)) (.cells #[.slice a vs.length cap, .slice none 0 0, .string ⟨#[]⟩] 27)
          have hoo := (far27 HO1c.out (b := w.heap.size + 1) (fun e => by have := HO.out.lt e; omega) (.slice a vs.length cap) (.slice none 0 0) (.string ⟨#[]⟩)).alloc (.cells #[.slice a vs.length cap, .slice none 0 0, .string ⟨#[]⟩] 27)
          generalize (((w3.setCell ⟨w.heap.size + 1, 0, none⟩ (.slice a vs.length cap)).setCell ⟨w.heap.size + 1, 1, none⟩ (.slice none 0 0)).setCell ⟨w.heap.size + 1, 2, none⟩ (.string ⟨#[]⟩)).alloc (.cells #[.slice a vs.length cap, .slice none 0 0, .string ⟨#[]⟩] 27) = W9 at hff hgg hoo ⊢
          obtain ⟨f0, f1, f2⟩ := res27 hff
          refine bodyPost_ret (v := .tuple #[.agg #[.slice a vs.length cap, .slice none 0 0, .string ⟨#[]⟩], .int .i64 9]) (by simp [results, Tryd.results12, go_sem, f0, f1, f2]) rfl ?_
          exact ⟨_, rfl, hoo, hgg⟩
        · have hr : R = (putF vs { lookV vs m with v := val }, 0) := by rw [← HR.out]; unfold setF; rw [if_neg (by rw [HN.out]; exact Bool.noConfusion), if_neg (by rw [HX.out]; exact Bool.noConfusion), if_neg hV, if_neg hF]
          have Ho2 := hide (fun W hW => Ho.out W hW hF)
          obtain ⟨p1, p2, p3⟩ := put_place HW.out.srt m
          have p4 := p3 { lookV vs m with v := val } (lookV_n vs m)
          have p5 := vcs_setv _ _ p1 val
          rw [p2 p1] at p5
          rw [p4] at hr
          unfold OnePost at Ho2
          obtain ⟨L, hL⟩ : ∃ L, putF vs (lookV vs m) = L := ⟨_, rfl⟩
          obtain ⟨ix, hix⟩ : ∃ ix, idxF m vs = ix := ⟨_, rfl⟩
          rw [hL, hix] at Ho2 p1 p5 hr
          have P5 := hide (show (vcs L).set (ix * 4 + 1) (.string ⟨val.toArray⟩) = vcs (L.set ix { lookV vs m with v := val }) from p5)
          have P1 := hide p1
          clear hF p2 p3 p4 hL hix p5 HR
          subst hr
          go_enter Tryd.func12, Tryd.ntmps12
          go_wp2_with fail
          refine (Hn.out _).mono ?_
          rintro e w1 ⟨rfl, g1⟩
          have hG := none_trans (only_alloc (only_alloc (only_refl w none) (.cells #[.slice a vs.length cap, .slice none 0 0, .string ⟨#[]⟩] 27)) (.cells #[.slice none 0 0, .slice none 0 0, .string ⟨#[]⟩] 27)) g1
          have hb3 := Blk.grown ((Blk.new w 27 #[.slice a vs.length cap, .slice none 0 0, .string ⟨#[]⟩]).alloc (.cells #[.slice none 0 0, .slice none 0 0, .string ⟨#[]⟩] 27)) g1 (by simp)
          have hb6 := Blk.grown (Blk.new (w.alloc (.cells #[.slice a vs.length cap, .slice none 0 0, .string ⟨#[]⟩] 27)) 27 #[.slice none 0 0, .slice none 0 0, .string ⟨#[]⟩]) g1 (by simp)
          rw [World.size_alloc] at hb6
          have HB3 := hide hb3
          have HB6 := hide hb6
          have HG := hide hG
          have HO1 := hide (HO.out.none_ hG)
          clear hG g1 hb3 hb6
          obtain ⟨d0, d1, d2⟩ := res27 HB3.out
          obtain ⟨e0, e1, e2⟩ := res27 HB6.out
          have z0 := Blk.frozen HB6.out 0
          have z1 := Blk.frozen HB6.out 1
          have z2 := Blk.frozen HB6.out 2
          have lb3 := Blk.lt HB3.out
          have lb6 := Blk.lt HB6.out
          go_wp2_with fail
          refine (Hx.out _ HO1.out).mono ?_
          rintro e w2 ⟨rfl, g2⟩
          have HB3b := hide (Blk.grown HB3.out g2 (by simp))
          have HB6b := hide (Blk.grown HB6.out g2 (by simp))
          have HGb := hide (none_trans HG.out g2)
          have HO1b := hide (HO1.out.none_ g2)
          clear g2 d0 d1 d2 e0 e1 e2 z0 z1 z2 lb3 lb6
          obtain ⟨d0, d1, d2⟩ := res27 HB3b.out
          obtain ⟨e0, e1, e2⟩ := res27 HB6b.out
          have z0 := Blk.frozen HB6b.out 0
          have z1 := Blk.frozen HB6b.out 1
          have z2 := Blk.frozen HB6b.out 2
          have lb3 := Blk.lt HB3b.out
          have lb6 := Blk.lt HB6b.out
          go_wp2_with fail
          refine (Ho2.out _ HO1b.out).mono ?_
          rintro e w3 ⟨g, off, cap2, rfl, ho3, hgn, g2⟩
          have hgw : w.heap.size + 1 < g := by have := Blk.lt HB6b.out; omega
          obtain ⟨c1, s1⟩ := ho3.cellAt (ix * 4 + 1) (by have := P1.out; omega)
          have zz1 := ho3.frozen0 (ix * 4 + 1)
          have hgl := ho3.lt (b := g) rfl
          obtain ⟨y1, hy1⟩ := Option.isSome_iff_exists.1 s1
          rw [hy1, ← Nat.add_assoc] at c1
          rw [← Nat.add_assoc] at zz1
          have ho4 := ho3.set (ix * 4 + 1) (by have := P1.out; omega) (.string ⟨val.toArray⟩)
          rw [P5.out, ← Nat.add_assoc] at ho4
          have HO3 := hide ho4
          clear s1 hy1 ho3 ho4
          have HB3c := hide (Blk.grown HB3b.out g2 (by simp))
          have HB6c := hide (Blk.grown HB6b.out g2 (by simp))
          have HGc := hide (none_trans HGb.out g2)
          have HO1c := hide (HO1b.out.none_ g2)
          clear g2 d0 d1 d2 e0 e1 e2 z0 z1 z2 lb3 lb6
          obtain ⟨d0, d1, d2⟩ := res27 HB3c.out
          obtain ⟨e0, e1, e2⟩ := res27 HB6c.out
          have z0 := Blk.frozen HB6c.out 0
          have z1 := Blk.frozen HB6c.out 1
          have z2 := Blk.frozen HB6c.out 2
          have lb3 := Blk.lt HB3c.out
          have lb6 := Blk.lt HB6c.out
          unfold envV
          go_wp2_with fail
          have hff := (fin27 (HB6c.out.far (p := ⟨g, off + ix * 4 + 1, none⟩) (by show w.heap.size + 1 ≠ g; omega) (.string ⟨val.toArray⟩)) (.slice (some ⟨g, off, none⟩) L.length cap2) (.slice none 0 0) (.string ⟨#[]⟩)).alloc (.cells #[.slice (some ⟨g, off, none⟩) L.length cap2, .slice none 0 0, .string ⟨#[]⟩] 27)
          have hgg := only_alloc (gr27 (none_setCell HGc.out (p := ⟨g, off + ix * 4 + 1, none⟩) (by show w.heap.size ≤ g; omega) (.string ⟨val.toArray⟩)) (b := w.heap.size + 1) (by omega) (.slice (some ⟨g, off, none⟩) L.length cap2) (.slice none 0 0) (.string ⟨#[]⟩)) (.cells #[.slice (some ⟨g, off, none⟩) L.length cap2, .slice none 0 0, .string ⟨#[]⟩] 27)
          have hoo := (far27 HO3.out (b := w.heap.size + 1) (fun e => by simp [Value.ownBlock] at e; omega) (.slice (some ⟨g, off, none⟩) L.length cap2) (.slice none 0 0) (.string ⟨#[]⟩)).alloc (.cells #[.slice (some ⟨g, off, none⟩) L.length cap2, .slice none 0 0, .string ⟨#[]⟩] 27)
          generalize ((((w3.setCell ⟨g, off + ix * 4 + 1, none⟩ (.string ⟨val.toArray⟩)).setCell ⟨w.heap.size + 1, 0, none⟩ (.slice (some ⟨g, off, none⟩) L.length cap2)).setCell ⟨w.heap.size + 1, 1, none⟩ (.slice none 0 0)).setCell ⟨w.heap.size + 1, 2, none⟩ (.string ⟨#[]⟩)).alloc (.cells #[.slice (some ⟨g, off, none⟩) L.length cap2, .slice none 0 0, .string ⟨#[]⟩] 27) = W9 at hff hgg hoo ⊢
          obtain ⟨f0, f1, f2⟩ := res27 hff
          refine bodyPost_ret (v := .tuple #[.agg #[.slice (some ⟨g, off, none⟩) L.length cap2, .slice none 0 0, .string ⟨#[]⟩], .int .i64 0]) (by simp [results, Tryd.results12, go_sem, f0, f1, f2]) rfl ?_
          exact ⟨_, rfl, by rw [List.length_set]; exact hoo, hgg⟩

set_option maxHeartbeats 4000000 in
theorem mark_any (vs : List V) (m : List UInt8) (ex ro : Bool) (v : Value) (w : World) (hw : WF vs) (ho : Own w 35 4 v vs.length (vcs vs) 0) (hm : m.length ≤ 9223372036854775807) :
    Calls Tryd.prog 13 #[envV v, sv m, .bool ex, .bool ro] w (EnvPost w (markF vs m ex ro)) := by
  have hl := hw.len
  have h1 := sz m
  have Hn := hide (fun W => name_any m W hm)
  have Hf := hide (fun W (hW : Own W 35 4 v vs.length (vcs vs) 0) (h : foundB vs m = false) (h' : 40 ≤ vs.length) => one_full vs m v W hw hW h h')
  have Ho := hide (fun W (hW : Own W 35 4 v vs.length (vcs vs) 0) (h : ¬ (foundB vs m = false ∧ 40 ≤ vs.length)) => one_any vs m v W hw hW h)
  have HW := hide hw
  have HO := hide ho
  obtain ⟨a, cap, rfl, _, _⟩ := ho.form
  unfold sv at Hn
  unfold sv envV at Hf Ho
  obtain ⟨R, hR⟩ : ∃ R, markF vs m ex ro = R := ⟨_, rfl⟩
  rw [hR]
  have HR := hide hR
  clear ho hw hR
  unfold sv envV
  cases hN : nameB m with
  | false =>
    have Hn := hide (fun W => by have := Hn.out W; rw [hN] at this; exact this)
    have hr : R = (vs, 1) := by rw [← HR.out]; unfold markF; rw [if_pos hN]
    clear hN
    subst hr
    go_enter Tryd.func13, Tryd.ntmps13
    go_wp2_with fail
    refine (Hn.out _).mono ?_
    rintro e w1 ⟨rfl, g1⟩
    have hG := none_trans (only_alloc (only_alloc (only_refl w none) (.cells #[.slice a vs.length cap, .slice none 0 0, .string ⟨#[]⟩] 27)) (.cells #[.slice none 0 0, .slice none 0 0, .string ⟨#[]⟩] 27)) g1
    have hb3 := Blk.grown ((Blk.new w 27 #[.slice a vs.length cap, .slice none 0 0, .string ⟨#[]⟩]).alloc (.cells #[.slice none 0 0, .slice none 0 0, .string ⟨#[]⟩] 27)) g1 (by simp)
    have hb6 := Blk.grown (Blk.new (w.alloc (.cells #[.slice a vs.length cap, .slice none 0 0, .string ⟨#[]⟩] 27)) 27 #[.slice none 0 0, .slice none 0 0, .string ⟨#[]⟩]) g1 (by simp)
    rw [World.size_alloc] at hb6
    have HB3 := hide hb3
    have HB6 := hide hb6
    have HG := hide hG
    have HO1 := hide (HO.out.none_ hG)
    clear hG g1 hb3 hb6
    obtain ⟨d0, d1, d2⟩ := res27 HB3.out
    obtain ⟨e0, e1, e2⟩ := res27 HB6.out
    have z0 := Blk.frozen HB6.out 0
    have z1 := Blk.frozen HB6.out 1
    have z2 := Blk.frozen HB6.out 2
    have lb3 := Blk.lt HB3.out
    have lb6 := Blk.lt HB6.out
    go_wp2_with fail
    have hff := fin27 HB6.out (.slice a vs.length cap) (.slice none 0 0) (.string ⟨#[]⟩)
    have hgg := gr27 HG.out (b := w.heap.size + 1) (by omega) (.slice a vs.length cap) (.slice none 0 0) (.string ⟨#[]⟩)
    have hoo := far27 HO1.out (b := w.heap.size + 1) (fun e => by have := HO.out.lt e; omega) (.slice a vs.length cap) (.slice none 0 0) (.string ⟨#[]⟩)
    generalize ((w1.setCell ⟨w.heap.size + 1, 0, none⟩ (.slice a vs.length cap)).setCell ⟨w.heap.size + 1, 1, none⟩ (.slice none 0 0)).setCell ⟨w.heap.size + 1, 2, none⟩ (.string ⟨#[]⟩) = W9 at hff hgg hoo ⊢
    obtain ⟨f0, f1, f2⟩ := res27 hff
    refine bodyPost_ret (v := .tuple #[.agg #[.slice a vs.length cap, .slice none 0 0, .string ⟨#[]⟩], .int .i64 1]) (by simp [results, Tryd.results13, go_sem, f0, f1, f2]) rfl ?_
    exact ⟨_, rfl, hoo, hgg⟩
  | true =>
    have Hn := hide (fun W => by have := Hn.out W; rw [hN] at this; exact this)
    have HN := hide hN
    clear hN
    by_cases hF : foundB vs m = false ∧ 40 ≤ vs.length
    · have hr : R = (vs, 9) := by rw [← HR.out]; unfold markF; rw [if_neg (by rw [HN.out]; exact Bool.noConfusion), if_pos hF]
      have Hf2 := hide (fun W hW => Hf.out W hW hF.1 hF.2)
      clear hF
      subst hr
      go_enter Tryd.func13, Tryd.ntmps13
      go_wp2_with fail
      refine (Hn.out _).mono ?_
      rintro e w1 ⟨rfl, g1⟩
      have hG := none_trans (only_alloc (only_alloc (only_refl w none) (.cells #[.slice a vs.length cap, .slice none 0 0, .string ⟨#[]⟩] 27)) (.cells #[.slice none 0 0, .slice none 0 0, .string ⟨#[]⟩] 27)) g1
      have hb3 := Blk.grown ((Blk.new w 27 #[.slice a vs.length cap, .slice none 0 0, .string ⟨#[]⟩]).alloc (.cells #[.slice none 0 0, .slice none 0 0, .string ⟨#[]⟩] 27)) g1 (by simp)
      have hb6 := Blk.grown (Blk.new (w.alloc (.cells #[.slice a vs.length cap, .slice none 0 0, .string ⟨#[]⟩] 27)) 27 #[.slice none 0 0, .slice none 0 0, .string ⟨#[]⟩]) g1 (by simp)
      rw [World.size_alloc] at hb6
      have HB3 := hide hb3
      have HB6 := hide hb6
      have HG := hide hG
      have HO1 := hide (HO.out.none_ hG)
      clear hG g1 hb3 hb6
      obtain ⟨d0, d1, d2⟩ := res27 HB3.out
      obtain ⟨e0, e1, e2⟩ := res27 HB6.out
      have z0 := Blk.frozen HB6.out 0
      have z1 := Blk.frozen HB6.out 1
      have z2 := Blk.frozen HB6.out 2
      have lb3 := Blk.lt HB3.out
      have lb6 := Blk.lt HB6.out
      go_wp2_with fail
      refine (Hf2.out _ HO1.out).mono ?_
      rintro e w2 ⟨rfl, g2⟩
      have HB3b := hide (Blk.grown HB3.out g2 (by simp))
      have HB6b := hide (Blk.grown HB6.out g2 (by simp))
      have HGb := hide (none_trans HG.out g2)
      have HO1b := hide (HO1.out.none_ g2)
      clear g2 d0 d1 d2 e0 e1 e2 z0 z1 z2 lb3 lb6
      obtain ⟨d0, d1, d2⟩ := res27 HB3b.out
      obtain ⟨e0, e1, e2⟩ := res27 HB6b.out
      have z0 := Blk.frozen HB6b.out 0
      have z1 := Blk.frozen HB6b.out 1
      have z2 := Blk.frozen HB6b.out 2
      have lb3 := Blk.lt HB3b.out
      have lb6 := Blk.lt HB6b.out
      go_wp2_with fail
      have hff := (fin27 HB6b.out (.slice a vs.length cap) (.slice none 0 0) (.string ⟨#[]⟩)).alloc (.cells #[.slice a vs.length cap, .slice none 0 0, .string ⟨#[]⟩] 27)
      have hgg := only_alloc (gr27 HGb.out (b := w.heap.size + 1) (by omega) (.slice a vs.length cap) (.slice none 0 0) (.string ⟨#[]⟩)) (.cells #[.slice a vs.length cap, .slice none 0 0, .string ⟨#[]⟩] 27)
      have hoo := (far27 HO1b.out (b := w.heap.size + 1) (fun e => by have := HO.out.lt e; omega) (.slice a vs.length cap) (.slice none 0 0) (.string ⟨#[]⟩)).alloc (.cells #[.slice a vs.length cap, .slice none 0 0, .string ⟨#[]⟩] 27)
      generalize (((w2.setCell ⟨w.heap.size + 1, 0, none⟩ (.slice a vs.length cap)).setCell ⟨w.heap.size + 1, 1, none⟩ (.slice none 0 0)).setCell ⟨w.heap.size + 1, 2, none⟩ (.string ⟨#[]⟩)).alloc (.cells #[.slice a vs.length cap, .slice none 0 0, .string ⟨#[]⟩] 27) = W9 at hff hgg hoo ⊢
      obtain ⟨f0, f1, f2⟩ := res27 hff
      refine bodyPost_ret (v := .tuple #[.agg #[.slice a vs.length cap, .slice none 0 0, .string ⟨#[]⟩], .int .i64 9]) (by simp [results, Tryd.results13, go_sem, f0, f1, f2]) rfl ?_
      exact ⟨_, rfl, hoo, hgg⟩
    · have hr : R = (putF vs { lookV vs m with x := (lookV vs m).x || ex, r := (lookV vs m).r || ro }, 0) := by rw [← HR.out]; unfold markF; rw [if_neg (by rw [HN.out]; exact Bool.noConfusion), if_neg hF]
      have Ho2 := hide (fun W hW => Ho.out W hW hF)
      obtain ⟨L, ix, U, hL, hix, hU, p1, p4, p5, v2, v3⟩ := mark_plain vs HW.out.srt m ex ro
      unfold OnePost at Ho2
      simp only [hL, hix] at Ho2
      simp only [hU] at hr
      rw [p4] at hr
      obtain ⟨un, uv, ux, ur⟩ := U
      have V2 := hide v2
      have V3 := hide v3
      have P5 := hide p5
      have P1 := hide p1
      clear hF p4 hL hix p5 HR v2 v3 hU
      subst hr
      go_enter Tryd.func13, Tryd.ntmps13
      go_wp2_with fail
      refine (Hn.out _).mono ?_
      rintro e w1 ⟨rfl, g1⟩
      have hG := none_trans (only_alloc (only_alloc (only_refl w none) (.cells #[.slice a vs.length cap, .slice none 0 0, .string ⟨#[]⟩] 27)) (.cells #[.slice none 0 0, .slice none 0 0, .string ⟨#[]⟩] 27)) g1
      have hb3 := Blk.grown ((Blk.new w 27 #[.slice a vs.length cap, .slice none 0 0, .string ⟨#[]⟩]).alloc (.cells #[.slice none 0 0, .slice none 0 0, .string ⟨#[]⟩] 27)) g1 (by simp)
      have hb6 := Blk.grown (Blk.new (w.alloc (.cells #[.slice a vs.length cap, .slice none 0 0, .string ⟨#[]⟩] 27)) 27 #[.slice none 0 0, .slice none 0 0, .string ⟨#[]⟩]) g1 (by simp)
      rw [World.size_alloc] at hb6
      have HB3 := hide hb3
      have HB6 := hide hb6
      have HG := hide hG
      have HO1 := hide (HO.out.none_ hG)
      clear hG g1 hb3 hb6
      obtain ⟨d0, d1, d2⟩ := res27 HB3.out
      obtain ⟨e0, e1, e2⟩ := res27 HB6.out
      have z0 := Blk.frozen HB6.out 0
      have z1 := Blk.frozen HB6.out 1
      have z2 := Blk.frozen HB6.out 2
      have lb3 := Blk.lt HB3.out
      have lb6 := Blk.lt HB6.out
      go_wp2_with fail
      refine (Ho2.out _ HO1.out).mono ?_
      rintro e w2 ⟨g, off, cap2, rfl, ho3, hgn, g2⟩
      have hgw : w.heap.size + 1 < g := by have := Blk.lt HB6.out; omega
      have hgl : g < w2.heap.size := ho3.lt (b := g) rfl
      have HO3 := hide (ho3.alloc (.cells #[.slice (some ⟨g, off, none⟩) L.length cap2, .slice none 0 0, .string ⟨#[]⟩] 27))
      clear ho3
      have HB3b := hide (Blk.alloc (Blk.grown HB3.out g2 (by simp)) (.cells #[.slice (some ⟨g, off, none⟩) L.length cap2, .slice none 0 0, .string ⟨#[]⟩] 27))
      have HB6b := hide (Blk.alloc (Blk.grown HB6.out g2 (by simp)) (.cells #[.slice (some ⟨g, off, none⟩) L.length cap2, .slice none 0 0, .string ⟨#[]⟩] 27))
      have HGb := hide (only_alloc (none_trans HG.out g2) (.cells #[.slice (some ⟨g, off, none⟩) L.length cap2, .slice none 0 0, .string ⟨#[]⟩] 27))
      have HB10 := hide (Blk.new w2 27 #[.slice (some ⟨g, off, none⟩) L.length cap2, .slice none 0 0, .string ⟨#[]⟩])
      have hw2 : w.heap.size + 1 < w2.heap.size := Nat.lt_of_lt_of_le (Blk.lt HB6.out) g2.size
      clear g2 d0 d1 d2 e0 e1 e2 z0 z1 z2 lb3 lb6
      unfold envV
      go_upto_region 5 with (fail)
      obtain ⟨nb, hnb⟩ : ∃ nb, w2.heap.size = nb := ⟨_, rfl⟩
      rw [hnb] at HB10 hw2 hgl ⊢
      generalize w2.alloc (.cells #[.slice (some ⟨g, off, none⟩) L.length cap2, .slice none 0 0, .string ⟨#[]⟩] 27) = W at HB3b HB6b HGb HO3 HB10 ⊢
      clear hnb
      obtain ⟨c2, _⟩ := HO3.out.cellAt (ix * 4 + 2) (by have := P1.out; omega)
      obtain ⟨c3, _⟩ := HO3.out.cellAt (ix * 4 + 3) (by have := P1.out; omega)
      rw [V2.out, ← Nat.add_assoc] at c2
      rw [V3.out, ← Nat.add_assoc] at c3
      have y2 := HO3.out.frozen0 (ix * 4 + 2)
      have y3 := HO3.out.frozen0 (ix * 4 + 3)
      rw [← Nat.add_assoc] at y2 y3
      have lg := HO3.out.lt (b := g) rfl
      obtain ⟨d0, d1, d2⟩ := res27 HB10.out
      obtain ⟨e0, e1, e2⟩ := res27 HB6b.out
      have z0 := Blk.frozen HB6b.out 0
      have z1 := Blk.frozen HB6b.out 1
      have z2 := Blk.frozen HB6b.out 2
      have lb3 := Blk.lt HB10.out
      have lb6 := Blk.lt HB6b.out
      cases ux with
      | false =>
        cases ur with
        | false =>
          go_region
          have p5 : ((vcs L).set (ix * 4 + 2) (.bool ex)).set (ix * 4 + 3) (.bool ro) = vcs (L.set ix ⟨un, uv, ex, ro⟩) := P5.out
          have ho4 := (HO3.out.set (ix * 4 + 2) (by have := P1.out; omega) (.bool ex)).set (ix * 4 + 3) (by have := P1.out; omega) (.bool ro)
          rw [p5, ← Nat.add_assoc, ← Nat.add_assoc] at ho4
          have hb6 := (HB6b.out.far (p := ⟨g, off + ix * 4 + 2, none⟩) (by show w.heap.size + 1 ≠ g; omega) (.bool ex)).far (p := ⟨g, off + ix * 4 + 3, none⟩) (by show w.heap.size + 1 ≠ g; omega) (.bool ro)
          have hb10 := (HB10.out.far (p := ⟨g, off + ix * 4 + 2, none⟩) (by show nb ≠ g; omega) (.bool ex)).far (p := ⟨g, off + ix * 4 + 3, none⟩) (by show nb ≠ g; omega) (.bool ro)
          have hgr := none_setCell (none_setCell HGb.out (p := ⟨g, off + ix * 4 + 2, none⟩) (by show w.heap.size ≤ g; omega) (.bool ex)) (p := ⟨g, off + ix * 4 + 3, none⟩) (by show w.heap.size ≤ g; omega) (.bool ro)
          have HB6d := hide (Blk.drew hb6)
          have HB10d := hide (Blk.drew hb10)
          have HGd := hide (only_drew hgr)
          have HOd := hide (Own.drew ho4)
          clear ho4 hb6 hb10 hgr p5 c2 c3 y2 y3 lg d0 d1 d2 e0 e1 e2 z0 z1 z2 lb3 lb6
          generalize ((W.setCell ⟨g, off + ix * 4 + 2, none⟩ (.bool ex)).setCell ⟨g, off + ix * 4 + 3, none⟩ (.bool ro)).drew = W6 at HB6d HB10d HGd HOd ⊢
          obtain ⟨d0, d1, d2⟩ := res27 HB10d.out
          obtain ⟨e0, e1, e2⟩ := res27 HB6d.out
          have z0 := Blk.frozen HB6d.out 0
          have z1 := Blk.frozen HB6d.out 1
          have z2 := Blk.frozen HB6d.out 2
          have lb3 := Blk.lt HB10d.out
          have lb6 := Blk.lt HB6d.out
          go_wp2_with fail
          have hff := fin27 HB6d.out (.slice (some ⟨g, off, none⟩) L.length cap2) (.slice none 0 0) (.string ⟨#[]⟩)
          have hgg := gr27 HGd.out (b := w.heap.size + 1) (by omega) (.slice (some ⟨g, off, none⟩) L.length cap2) (.slice none 0 0) (.string ⟨#[]⟩)
          have hoo := far27 HOd.out (b := w.heap.size + 1) (fun e => by simp [Value.ownBlock] at e; omega) (.slice (some ⟨g, off, none⟩) L.length cap2) (.slice none 0 0) (.string ⟨#[]⟩)
          generalize ((W6.setCell ⟨w.heap.size + 1, 0, none⟩ (.slice (some ⟨g, off, none⟩) L.length cap2)).setCell ⟨w.heap.size + 1, 1, none⟩ (.slice none 0 0)).setCell ⟨w.heap.size + 1, 2, none⟩ (.string ⟨#[]⟩) = W9 at hff hgg hoo ⊢
          obtain ⟨f0, f1, f2⟩ := res27 hff
          refine bodyPost_ret (v := .tuple #[.agg #[.slice (some ⟨g, off, none⟩) L.length cap2, .slice none 0 0, .string ⟨#[]⟩], .int .i64 0]) (by simp [results, Tryd.results13, go_sem, f0, f1, f2]) rfl ?_
          exact ⟨_, rfl, by rw [List.length_set]; exact hoo, hgg⟩
        | true =>
          go_region
          have p5 : ((vcs L).set (ix * 4 + 2) (.bool ex)).set (ix * 4 + 3) (.bool true) = vcs (L.set ix ⟨un, uv, ex, true⟩) := P5.out
          have ho4 := (HO3.out.set (ix * 4 + 2) (by have := P1.out; omega) (.bool ex)).set (ix * 4 + 3) (by have := P1.out; omega) (.bool true)
          rw [p5, ← Nat.add_assoc, ← Nat.add_assoc] at ho4
          have hb6 := (HB6b.out.far (p := ⟨g, off + ix * 4 + 2, none⟩) (by show w.heap.size + 1 ≠ g; omega) (.bool ex)).far (p := ⟨g, off + ix * 4 + 3, none⟩) (by show w.heap.size + 1 ≠ g; omega) (.bool true)
          have hb10 := (HB10.out.far (p := ⟨g, off + ix * 4 + 2, none⟩) (by show nb ≠ g; omega) (.bool ex)).far (p := ⟨g, off + ix * 4 + 3, none⟩) (by show nb ≠ g; omega) (.bool true)
          have hgr := none_setCell (none_setCell HGb.out (p := ⟨g, off + ix * 4 + 2, none⟩) (by show w.heap.size ≤ g; omega) (.bool ex)) (p := ⟨g, off + ix * 4 + 3, none⟩) (by show w.heap.size ≤ g; omega) (.bool true)
          have HB6d := hide (Blk.drew hb6)
          have HB10d := hide (Blk.drew hb10)
          have HGd := hide (only_drew hgr)
          have HOd := hide (Own.drew ho4)
          clear ho4 hb6 hb10 hgr p5 c2 c3 y2 y3 lg d0 d1 d2 e0 e1 e2 z0 z1 z2 lb3 lb6
          generalize ((W.setCell ⟨g, off + ix * 4 + 2, none⟩ (.bool ex)).setCell ⟨g, off + ix * 4 + 3, none⟩ (.bool true)).drew = W6 at HB6d HB10d HGd HOd ⊢
          obtain ⟨d0, d1, d2⟩ := res27 HB10d.out
          obtain ⟨e0, e1, e2⟩ := res27 HB6d.out
          have z0 := Blk.frozen HB6d.out 0
          have z1 := Blk.frozen HB6d.out 1
          have z2 := Blk.frozen HB6d.out 2
          have lb3 := Blk.lt HB10d.out
          have lb6 := Blk.lt HB6d.out
          go_wp2_with fail
          have hff := fin27 HB6d.out (.slice (some ⟨g, off, none⟩) L.length cap2) (.slice none 0 0) (.string ⟨#[]⟩)
          have hgg := gr27 HGd.out (b := w.heap.size + 1) (by omega) (.slice (some ⟨g, off, none⟩) L.length cap2) (.slice none 0 0) (.string ⟨#[]⟩)
          have hoo := far27 HOd.out (b := w.heap.size + 1) (fun e => by simp [Value.ownBlock] at e; omega) (.slice (some ⟨g, off, none⟩) L.length cap2) (.slice none 0 0) (.string ⟨#[]⟩)
          generalize ((W6.setCell ⟨w.heap.size + 1, 0, none⟩ (.slice (some ⟨g, off, none⟩) L.length cap2)).setCell ⟨w.heap.size + 1, 1, none⟩ (.slice none 0 0)).setCell ⟨w.heap.size + 1, 2, none⟩ (.string ⟨#[]⟩) = W9 at hff hgg hoo ⊢
          obtain ⟨f0, f1, f2⟩ := res27 hff
          refine bodyPost_ret (v := .tuple #[.agg #[.slice (some ⟨g, off, none⟩) L.length cap2, .slice none 0 0, .string ⟨#[]⟩], .int .i64 0]) (by simp [results, Tryd.results13, go_sem, f0, f1, f2]) rfl ?_
          exact ⟨_, rfl, by rw [List.length_set]; exact hoo, hgg⟩
      | true =>
        cases ur with
        | false =>
          go_region
          have p5 : ((vcs L).set (ix * 4 + 2) (.bool true)).set (ix * 4 + 3) (.bool ro) = vcs (L.set ix ⟨un, uv, true, ro⟩) := P5.out
          have ho4 := (HO3.out.set (ix * 4 + 2) (by have := P1.out; omega) (.bool true)).set (ix * 4 + 3) (by have := P1.out; omega) (.bool ro)
          rw [p5, ← Nat.add_assoc, ← Nat.add_assoc] at ho4
          have hb6 := (HB6b.out.far (p := ⟨g, off + ix * 4 + 2, none⟩) (by show w.heap.size + 1 ≠ g; omega) (.bool true)).far (p := ⟨g, off + ix * 4 + 3, none⟩) (by show w.heap.size + 1 ≠ g; omega) (.bool ro)
          have hb10 := (HB10.out.far (p := ⟨g, off + ix * 4 + 2, none⟩) (by show nb ≠ g; omega) (.bool true)).far (p := ⟨g, off + ix * 4 + 3, none⟩) (by show nb ≠ g; omega) (.bool ro)
          have hgr := none_setCell (none_setCell HGb.out (p := ⟨g, off + ix * 4 + 2, none⟩) (by show w.heap.size ≤ g; omega) (.bool true)) (p := ⟨g, off + ix * 4 + 3, none⟩) (by show w.heap.size ≤ g; omega) (.bool ro)
          have HB6d := hide (Blk.drew hb6)
          have HB10d := hide (Blk.drew hb10)
          have HGd := hide (only_drew hgr)
          have HOd := hide (Own.drew ho4)
          clear ho4 hb6 hb10 hgr p5 c2 c3 y2 y3 lg d0 d1 d2 e0 e1 e2 z0 z1 z2 lb3 lb6
          generalize ((W.setCell ⟨g, off + ix * 4 + 2, none⟩ (.bool true)).setCell ⟨g, off + ix * 4 + 3, none⟩ (.bool ro)).drew = W6 at HB6d HB10d HGd HOd ⊢
          obtain ⟨d0, d1, d2⟩ := res27 HB10d.out
          obtain ⟨e0, e1, e2⟩ := res27 HB6d.out
          have z0 := Blk.frozen HB6d.out 0
          have z1 := Blk.frozen HB6d.out 1
          have z2 := Blk.frozen HB6d.out 2
          have lb3 := Blk.lt HB10d.out
          have lb6 := Blk.lt HB6d.out
          go_wp2_with fail
          have hff := fin27 HB6d.out (.slice (some ⟨g, off, none⟩) L.length cap2) (.slice none 0 0) (.string ⟨#[]⟩)
          have hgg := gr27 HGd.out (b := w.heap.size + 1) (by omega) (.slice (some ⟨g, off, none⟩) L.length cap2) (.slice none 0 0) (.string ⟨#[]⟩)
          have hoo := far27 HOd.out (b := w.heap.size + 1) (fun e => by simp [Value.ownBlock] at e; omega) (.slice (some ⟨g, off, none⟩) L.length cap2) (.slice none 0 0) (.string ⟨#[]⟩)
          generalize ((W6.setCell ⟨w.heap.size + 1, 0, none⟩ (.slice (some ⟨g, off, none⟩) L.length cap2)).setCell ⟨w.heap.size + 1, 1, none⟩ (.slice none 0 0)).setCell ⟨w.heap.size + 1, 2, none⟩ (.string ⟨#[]⟩) = W9 at hff hgg hoo ⊢
          obtain ⟨f0, f1, f2⟩ := res27 hff
          refine bodyPost_ret (v := .tuple #[.agg #[.slice (some ⟨g, off, none⟩) L.length cap2, .slice none 0 0, .string ⟨#[]⟩], .int .i64 0]) (by simp [results, Tryd.results13, go_sem, f0, f1, f2]) rfl ?_
          exact ⟨_, rfl, by rw [List.length_set]; exact hoo, hgg⟩
        | true =>
          go_region
          have p5 : ((vcs L).set (ix * 4 + 2) (.bool true)).set (ix * 4 + 3) (.bool true) = vcs (L.set ix ⟨un, uv, true, true⟩) := P5.out
          have ho4 := (HO3.out.set (ix * 4 + 2) (by have := P1.out; omega) (.bool true)).set (ix * 4 + 3) (by have := P1.out; omega) (.bool true)
          rw [p5, ← Nat.add_assoc, ← Nat.add_assoc] at ho4
          have hb6 := (HB6b.out.far (p := ⟨g, off + ix * 4 + 2, none⟩) (by show w.heap.size + 1 ≠ g; omega) (.bool true)).far (p := ⟨g, off + ix * 4 + 3, none⟩) (by show w.heap.size + 1 ≠ g; omega) (.bool true)
          have hb10 := (HB10.out.far (p := ⟨g, off + ix * 4 + 2, none⟩) (by show nb ≠ g; omega) (.bool true)).far (p := ⟨g, off + ix * 4 + 3, none⟩) (by show nb ≠ g; omega) (.bool true)
          have hgr := none_setCell (none_setCell HGb.out (p := ⟨g, off + ix * 4 + 2, none⟩) (by show w.heap.size ≤ g; omega) (.bool true)) (p := ⟨g, off + ix * 4 + 3, none⟩) (by show w.heap.size ≤ g; omega) (.bool true)
          have HB6d := hide (Blk.drew hb6)
          have HB10d := hide (Blk.drew hb10)
          have HGd := hide (only_drew hgr)
          have HOd := hide (Own.drew ho4)
          clear ho4 hb6 hb10 hgr p5 c2 c3 y2 y3 lg d0 d1 d2 e0 e1 e2 z0 z1 z2 lb3 lb6
          generalize ((W.setCell ⟨g, off + ix * 4 + 2, none⟩ (.bool true)).setCell ⟨g, off + ix * 4 + 3, none⟩ (.bool true)).drew = W6 at HB6d HB10d HGd HOd ⊢
          obtain ⟨d0, d1, d2⟩ := res27 HB10d.out
          obtain ⟨e0, e1, e2⟩ := res27 HB6d.out
          have z0 := Blk.frozen HB6d.out 0
          have z1 := Blk.frozen HB6d.out 1
          have z2 := Blk.frozen HB6d.out 2
          have lb3 := Blk.lt HB10d.out
          have lb6 := Blk.lt HB6d.out
          go_wp2_with fail
          have hff := fin27 HB6d.out (.slice (some ⟨g, off, none⟩) L.length cap2) (.slice none 0 0) (.string ⟨#[]⟩)
          have hgg := gr27 HGd.out (b := w.heap.size + 1) (by omega) (.slice (some ⟨g, off, none⟩) L.length cap2) (.slice none 0 0) (.string ⟨#[]⟩)
          have hoo := far27 HOd.out (b := w.heap.size + 1) (fun e => by simp [Value.ownBlock] at e; omega) (.slice (some ⟨g, off, none⟩) L.length cap2) (.slice none 0 0) (.string ⟨#[]⟩)
          generalize ((W6.setCell ⟨w.heap.size + 1, 0, none⟩ (.slice (some ⟨g, off, none⟩) L.length cap2)).setCell ⟨w.heap.size + 1, 1, none⟩ (.slice none 0 0)).setCell ⟨w.heap.size + 1, 2, none⟩ (.string ⟨#[]⟩) = W9 at hff hgg hoo ⊢
          obtain ⟨f0, f1, f2⟩ := res27 hff
          refine bodyPost_ret (v := .tuple #[.agg #[.slice (some ⟨g, off, none⟩) L.length cap2, .slice none 0 0, .string ⟨#[]⟩], .int .i64 0]) (by simp [results, Tryd.results13, go_sem, f0, f1, f2]) rfl ?_
          exact ⟨_, rfl, by rw [List.length_set]; exact hoo, hgg⟩

end Go.Proofs.YtdcfpklohleoiaaDoor
