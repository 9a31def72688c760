/- What stands in a set, as a plain function, for whatever collects its bytes. -/
import Derived.Test.YtphjafidencdeaaB
namespace Go.Proofs.Ytphjafidencdeaa
open Go.RowKit

def PtAt (w : World) (pb : Nat) (p : Pt) : Prop := Blk w pb 38 p.cells.toArray
theorem PtAt.c {w : World} {pb : Nat} {p : Pt} (h : PtAt w pb p) : w.cell? ⟨pb, 0, none⟩ = some (.bool p.many) ∧ w.cell? ⟨pb, 1, none⟩ = some (.bool p.wild) ∧ w.cell? ⟨pb, 2, none⟩ = some (.int .u64 p.s.a) ∧ w.cell? ⟨pb, 3, none⟩ = some (.int .u64 p.s.b) ∧ w.cell? ⟨pb, 4, none⟩ = some (.int .u64 p.s.c) ∧ w.cell? ⟨pb, 5, none⟩ = some (.int .u64 p.s.d) :=
  ⟨Blk.cell h 0, Blk.cell h 1, Blk.cell h 2, Blk.cell h 3, Blk.cell h 4, Blk.cell h 5⟩
def pt0 : Pt := ⟨false, false, Ws.zero⟩

theorem add_blk (pb : Nat) (p : Pt) (c : UInt8) (w : World) (hp : PtAt w pb p) (hok : p.s.ok) :
    Calls Try.prog 30 #[.pointer (some ⟨pb, 0, none⟩), .int .u8 c.toNat] w fun e w' => e = .returned (.tuple #[]) ∧ PtAt w' pb ⟨p.many, p.wild, p.s.add c⟩ ∧ w.grownBy w' (some pb) := by
  have hc := c.toNat_lt
  have hcell : w.cell? ⟨pb, 0 + 2 + c.toNat / 64, none⟩ = some (.int .u64 (p.s.get (c.toNat / 64))) := by
    obtain ⟨_, _, c2, c3, c4, c5⟩ := hp.c
    rcases (show c.toNat / 64 = 0 ∨ c.toNat / 64 = 1 ∨ c.toNat / 64 = 2 ∨ c.toNat / 64 = 3 by omega) with h | h | h | h <;> rw [h]
    · exact c2
    · exact c3
    · exact c4
    · exact c5
  refine (add_any pb 0 p.s c w hok hcell (Blk.frozen hp _)).mono ?_
  rintro e w' ⟨rfl, rfl⟩
  refine ⟨rfl, ?_, only_drew (only_setCell (only_refl w _) (.inl rfl) _)⟩
  have hs := (Blk.set_ hp (0 + 2 + c.toNat / 64) (.int .u64 (p.s.get (c.toNat / 64) ||| 2 ^ (c.toNat % 64) : Nat))).drew
  unfold PtAt
  have e : (Pt.mk p.many p.wild (p.s.add c)).cells.toArray = p.cells.toArray.setIfInBounds (0 + 2 + c.toNat / 64) (.int .u64 (p.s.get (c.toNat / 64) ||| 2 ^ (c.toNat % 64) : Nat)) := by
    unfold Ws.add
    rcases (show c.toNat / 64 = 0 ∨ c.toNat / 64 = 1 ∨ c.toNat / 64 = 2 ∨ c.toNat / 64 = 3 by omega) with h | h | h | h <;> rw [h] <;> rfl
  rw [e]
  exact hs

/-- So many bytes, from one on. -/
def addN (s : Ws) (c : Nat) : Nat → Ws
  | 0 => s
  | n + 1 => addN (s.add (UInt8.ofNat c)) (c + 1) n
theorem addN_ok {s : Ws} (h : s.ok) (c n : Nat) : (addN s c n).ok := by
  induction n generalizing s c with
  | zero => exact h
  | succ n ih => exact ih (Ws.ok_add h _) _
def addR (s : Ws) (lo hi : UInt8) : Ws := addN s lo.toNat (hi.toNat + 1 - lo.toNat)

theorem quo_pos {l : List UInt8} (h : l ≠ []) : 1 ≤ (quo l).2 := by
  match l, h with
  | [c], _ => exact Nat.le_refl _
  | c :: d :: r, _ =>
    show 1 ≤ (if c = 92 then (d, 2) else (c, 1)).2
    split <;> simp
theorem quo_len (l : List UInt8) : (quo l).2 ≤ l.length := by
  match l with
  | [] => exact Nat.le_refl _
  | [c] => exact Nat.le_refl _
  | c :: d :: r =>
    show (if c = 92 then (d, 2) else (c, 1)).2 ≤ r.length + 1 + 1
    split <;> simp
theorem drop_ne {l : List UInt8} {i : Nat} (h : i < l.length) : l.drop i ≠ [] := by
  intro e
  have := congrArg List.length e
  rw [List.length_drop] at this
  simp at this
  omega
theorem quo_le {l : List UInt8} {i : Nat} (h : i < l.length) : i + (quo (l.drop i)).2 ≤ l.length := by
  have := quo_len (l.drop i)
  rw [List.length_drop] at this
  omega

/-- What stands in a set: from a place on, till the bracket that closes it. -/
def setGo {α : Type} (add : α → UInt8 → UInt8 → α) (l : List UInt8) (first i : Nat) (s : α) : Option (α × Nat) :=
  if h : i < l.length then
    if l[i] = 93 ∧ first < i then some (s, i + 1)
    else if i + (quo (l.drop i)).2 + 1 < l.length ∧ l.getD (i + (quo (l.drop i)).2) 0 = 45 ∧ l.getD (i + (quo (l.drop i)).2 + 1) 0 ≠ 93 then
      setGo add l first (i + (quo (l.drop i)).2 + 1 + (quo (l.drop (i + (quo (l.drop i)).2 + 1))).2) (add s (quo (l.drop i)).1 (quo (l.drop (i + (quo (l.drop i)).2 + 1))).1)
    else setGo add l first (i + (quo (l.drop i)).2) (add s (quo (l.drop i)).1 (quo (l.drop i)).1)
  else none
termination_by l.length - i
decreasing_by
  · have := quo_pos (drop_ne h)
    omega
  · have := quo_pos (drop_ne h)
    omega
section
variable {α : Type} {add : α → UInt8 → UInt8 → α} {l : List UInt8} {first i : Nat} {s : α}
theorem setGo_end (h : ¬ i < l.length) : setGo add l first i s = none := by rw [setGo, dif_neg h]
theorem setGo_close (h : i < l.length) (hc : l[i] = 93 ∧ first < i) : setGo add l first i s = some (s, i + 1) := by rw [setGo, dif_pos h, if_pos hc]
theorem setGo_range (h : i < l.length) (hc : ¬ (l[i] = 93 ∧ first < i)) (hr : i + (quo (l.drop i)).2 + 1 < l.length ∧ l.getD (i + (quo (l.drop i)).2) 0 = 45 ∧ l.getD (i + (quo (l.drop i)).2 + 1) 0 ≠ 93) :
    setGo add l first i s = setGo add l first (i + (quo (l.drop i)).2 + 1 + (quo (l.drop (i + (quo (l.drop i)).2 + 1))).2) (add s (quo (l.drop i)).1 (quo (l.drop (i + (quo (l.drop i)).2 + 1))).1) := by
  rw [setGo, dif_pos h, if_neg hc, if_pos hr]
theorem setGo_one (h : i < l.length) (hc : ¬ (l[i] = 93 ∧ first < i)) (hr : ¬ (i + (quo (l.drop i)).2 + 1 < l.length ∧ l.getD (i + (quo (l.drop i)).2) 0 = 45 ∧ l.getD (i + (quo (l.drop i)).2 + 1) 0 ≠ 93)) :
    setGo add l first i s = setGo add l first (i + (quo (l.drop i)).2) (add s (quo (l.drop i)).1 (quo (l.drop i)).1) := by
  rw [setGo, dif_pos h, if_neg hc, if_neg hr]
end
def notB (l : List UInt8) : Bool := decide (l.take 1 = [33])
/-- The set with which a text begins (what stands behind the bracket), and how many bytes it has. -/
def setF (l : List UInt8) : Pt × Nat := match setGo addR l (if notB l then 1 else 0) (if notB l then 1 else 0) Ws.zero with
  | none => (pt0, 0)
  | some (s, n) => (⟨false, true, if notB l then s.inv else s⟩, n)

end Go.Proofs.Ytphjafidencdeaa
