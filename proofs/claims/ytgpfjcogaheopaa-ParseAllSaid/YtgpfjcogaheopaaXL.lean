/- shown. -/
import Derived.Test.YtgpfjcogaheopaaMB
set_option linter.all false
namespace Go.Proofs.Ytgpfjcogaheopaa.Lx
open Go.RowKit
set_option maxRecDepth 100000
/-! ### the same functions, by a number of steps: for the kernel to reckon -/
def withinN (pf : List UInt8 → Rs) (e : UInt8) (plain : List UInt8) : Nat → Nat → List UInt8 → Rs
 | 0, _, _ => .more
 | _ + 1, _, [] => .more
 | f + 1, o, c :: r =>
  if c = e then (if o = 0 then .ok 1 else (withinN pf e plain f (o - 1) r).add 1)
  else if e = 41 ∧ c = 40 then (withinN pf e plain f (o + 1) r).add 1
  else if isIn plain c = true then (withinN pf e plain f o r).add 1
  else match pf (c :: r) with
   | .more => .more
   | .deep a => .deep a
   | .ok n => (withinN pf e plain f o (r.drop (n - 1))).add (max n 1)
theorem withinN_eq (pf : List UInt8 → Rs) (e : UInt8) (plain : List UInt8) : ∀ (f o : Nat) (t : List UInt8), t.length ≤ f → withinN pf e plain f o t = withinR pf e plain o t := by
 intro f
 induction f with
 | zero =>
  intro o t h
  have : t = [] := List.length_eq_zero_iff.1 (by omega)
  subst this
  rw [within_nil]; rfl
 | succ f ih =>
  intro o t h
  cases t with
  | nil => rw [within_nil]; rfl
  | cons c r =>
   rw [List.length_cons] at h
   rw [within_cons]
   show (if c = e then (if o = 0 then .ok 1 else (withinN pf e plain f (o - 1) r).add 1)
    else if e = 41 ∧ c = 40 then (withinN pf e plain f (o + 1) r).add 1
    else if isIn plain c = true then (withinN pf e plain f o r).add 1
    else match pf (c :: r) with
     | .more => .more
     | .deep a => .deep a
     | .ok n => (withinN pf e plain f o (r.drop (n - 1))).add (max n 1)) = _
   rw [ih _ r (by omega), ih _ r (by omega), ih _ r (by omega)]
   cases hp : pf (c :: r) with
   | more => rfl
   | deep a => rfl
   | ok n => simp only [ih _ (r.drop (n - 1)) (by rw [List.length_drop]; omega)]
def partN : Nat → Bool → List UInt8 → Rs
 | 0, q, t => if begs q t = true then .deep 0 else .ok 0
 | lv + 1, q, t =>
  if begs q t = true then
   if t.take 1 = [92] then (if t.length < 2 then .more else .ok 2)
   else if t.take 1 = [96] then (untilR 96 true (t.drop 1)).add 1
   else if t.take 1 = [39] then (untilR 39 false (t.drop 1)).add 1
   else if t.take 1 = [34] then (withinN (partN lv true) 34 [39] t.length 0 (t.drop 1)).add 1
   else if t.take 3 = [36, 40, 40] then (sumsR 0 (t.drop 3)).add 3
   else if t.take 2 = [36, 40] then (withinN (partN lv false) 41 [] t.length 0 (t.drop 2)).add 2
   else if q = true then (withinN (partN lv true) 125 [39] t.length 0 (t.drop 2)).add 2
   else (withinN (partN lv false) 125 [] t.length 0 (t.drop 2)).add 2
  else .ok 0
theorem partN_eq : ∀ (lv : Nat) (q : Bool), partN lv q = partR lv q := by
 intro lv
 induction lv with
 | zero => intro q; rfl
 | succ lv ih =>
  intro q
  funext t
  unfold partN partR
  rw [ih, ih, withinN_eq _ _ _ _ _ _ (by rw [List.length_drop]; omega), withinN_eq _ _ _ _ _ _ (by rw [List.length_drop]; omega), withinN_eq _ _ _ _ _ _ (by rw [List.length_drop]; omega), withinN_eq _ _ _ _ _ _ (by rw [List.length_drop]; omega)]
def wordN : Nat → List UInt8 → Rs
 | 0, _ => .ok 0
 | _ + 1, [] => .ok 0
 | f + 1, c :: r =>
  if isIn stopB c = true then .ok 0
  else match partN 25 false (c :: r) with
   | .more => .more
   | .deep a => .deep a
   | .ok n => (wordN f (r.drop (n - 1))).add (max n 1)
theorem wordN_eq : ∀ (f : Nat) (t : List UInt8), t.length ≤ f → wordN f t = wordR t := by
 intro f
 induction f with
 | zero =>
  intro t h
  have : t = [] := List.length_eq_zero_iff.1 (by omega)
  subst this
  rw [word_nil]; rfl
 | succ f ih =>
  intro t h
  cases t with
  | nil => rw [word_nil]; rfl
  | cons c r =>
   rw [List.length_cons] at h
   rw [word_cons, ← partN_eq]
   show (if isIn stopB c = true then Rs.ok 0
    else match partN 25 false (c :: r) with
     | .more => Rs.more
     | .deep a => Rs.deep a
     | .ok n => (wordN f (r.drop (n - 1))).add (max n 1)) = _
   cases hp : partN 25 false (c :: r) with
   | more => rfl
   | deep a => rfl
   | ok n => simp only [ih (r.drop (n - 1)) (by rw [List.length_drop]; omega)]
def blankN : Nat → List UInt8 → Nat
 | 0, _ => 0
 | _ + 1, [] => 0
 | f + 1, c :: r =>
  if c = 32 ∨ c = 9 then 1 + blankN f r
  else if (c :: r).take 2 = [92, 10] then 2 + blankN f (r.drop 1)
  else if c = 35 then ((c :: r).takeWhile (· != 10)).length
  else 0
theorem blankN_eq : ∀ (f : Nat) (t : List UInt8), t.length ≤ f → blankN f t = blankF t := by
 intro f
 induction f with
 | zero =>
  intro t h
  have : t = [] := List.length_eq_zero_iff.1 (by omega)
  subst this
  rw [blank_nil]; rfl
 | succ f ih =>
  intro t h
  cases t with
  | nil => rw [blank_nil]; rfl
  | cons c r =>
   rw [List.length_cons] at h
   rw [blank_cons, ← ih r (by omega), ← ih (r.drop 1) (by rw [List.length_drop]; omega)]
   rfl
def nextN (t : List UInt8) : Nx := if signF t ≠ [] then .tok 2 (signF t) else match wordN t.length t with
 | .ok n => .tok (if ioB t n = true then 3 else 1) (t.take n)
 | .more => .more
 | .deep a => .deep a
theorem nextN_eq (t : List UInt8) : nextN t = nextF t := by
 unfold nextN nextF
 rw [wordN_eq _ _ (Nat.le_refl _)]
 rfl
def goN (l : List UInt8) : Nat → Nat → List Tok → Ar
 | 0, _, acc => .ok acc
 | f + 1, i, acc => if i < l.length then (if acc.length = 400 then .err i 12 else match nextN (l.drop i) with
   | .tok k s => goN l f (i + s.length + blankN l.length (l.drop (i + s.length))) (acc ++ [⟨k, s, i⟩])
   | .more => .err l.length 23
   | .deep a => .err ((i : Int) + a) 17) else .ok acc
theorem goN_eq (l : List UInt8) : ∀ (f i : Nat) (acc : List Tok), goN l f i acc = allGo l f i acc := by
 intro f
 induction f with
 | zero => intro i acc; rfl
 | succ f ih =>
  intro i acc
  rw [allGo_step, ← nextN_eq]
  show (if i < l.length then (if acc.length = 400 then Ar.err i 12 else match nextN (l.drop i) with
   | .tok k s => goN l f (i + s.length + blankN l.length (l.drop (i + s.length))) (acc ++ [Tok.mk k s i])
   | .more => Ar.err l.length 23
   | .deep a => Ar.err ((i : Int) + a) 17) else Ar.ok acc) = _
  cases hn : nextN (l.drop i) with
  | tok k s =>
   simp only
   rw [ih, blankN_eq _ _ (by rw [List.length_drop]; omega)]
  | more => rfl
  | deep a => rfl
def allN (l : List UInt8) : Ar := finAr l (goN l (l.length + 1) (blankN l.length l) [])
theorem allF_fin (l : List UInt8) (h : ¬ 4096 < l.length) : allF l = finAr l (allGo l (l.length + 1) (blankF l) []) := by
 unfold allF
 rw [if_neg h]
 cases allGo l (l.length + 1) (blankF l) [] <;> rfl
theorem allN_eq (l : List UInt8) (h : ¬ 4096 < l.length) : allF l = allN l := by
 rw [allF_fin l h]
 unfold allN
 rw [goN_eq, blankN_eq _ _ (Nat.le_refl _)]
theorem all_any (l : List UInt8) (w : World) (hm : l.length ≤ 9223372036854775807) : Calls Try.prog 20 #[sv l] w fun e w' => AllPost w l (allF l) e w' := by
 by_cases h : 4096 < l.length
 ·have : allF l = .err 0 10 := by unfold allF; rw [if_pos h]
  rw [this]
  exact all_long l w h hm
 ·rw [allF_fin l h]
  exact all_short l w (by omega) _ rfl
end Go.Proofs.Ytgpfjcogaheopaa.Lx
