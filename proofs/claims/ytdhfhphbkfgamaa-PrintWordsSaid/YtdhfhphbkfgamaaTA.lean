/- The printer as plain functions: the texts it puts, one behind the other. -/
import Derived.Test.YtdhfhphbkfgamaaPA
namespace Go.Proofs.Ytdhfhphbkfgamaa
open Lx
set_option maxRecDepth 100000

/-- A text is put behind another one, as long as there is room. -/
def putF (b s : List UInt8) : List UInt8 := if b.length ≤ 4096 then b ++ s.take 4097 else b
def putsF (b : List UInt8) (l : List (List UInt8)) : List UInt8 := l.foldl putF b
theorem puts_app (b : List UInt8) (l m : List (List UInt8)) : putsF b (l ++ m) = putsF (putsF b l) m := List.foldl_append ..
theorem puts_nil (b : List UInt8) : putsF b [] = b := rfl
theorem puts_cons (b s : List UInt8) (l : List (List UInt8)) : putsF b (s :: l) = putsF (putF b s) l := rfl
theorem put_len (b s : List UInt8) (h : b.length ≤ 8193) : (putF b s).length ≤ 8193 := by
  unfold putF
  split
  · rw [List.length_append, List.length_take]; omega
  · exact h
theorem puts_len : ∀ (l : List (List UInt8)) (b : List UInt8), b.length ≤ 8193 → (putsF b l).length ≤ 8193
  | [], _, h => h
  | s :: l, b, h => puts_len l _ (put_len b s h)
/-- Texts with blanks between; more: something stands ahead. -/
def wordsE : List (List UInt8) → Bool → List (List UInt8)
  | [], _ => []
  | s :: r, more => (if more = true then [[32]] else []) ++ [s] ++ wordsE r true
def wordsM (l : List (List UInt8)) (more : Bool) : Bool := more || !l.isEmpty
def nd0 : Nd := { kind := 0 }
def ndF (l : List Nd) (k : Int) : Nd := l.getD k.toNat nd0
def kidE (rec : Nat → List (List UInt8)) (n : Nd) (i : Nat) : List (List UInt8) := match n.kids[i]? with
  | some k => if 0 ≤ k then rec k.toNat else []
  | none => []
def backB (l : List Nd) (k : Int) : Bool := if k < 0 then false else
  let n := ndF l k
  match n.kids.getLast? with
  | some m => if n.kind = 6 then (ndF l m).kind == 7 else n.kind == 7
  | none => n.kind == 7
def endE (l : List Nd) (n : Nd) (i : Nat) : List (List UInt8) := match n.kids[i]? with
  | some k => if backB l k = true then [] else [[59]]
  | none => [[59]]
def listE (l : List Nd) (rec : Nat → List (List UInt8)) (n : Nd) (i : Nat) : List (List UInt8) := kidE rec n i ++ endE l n i ++ [[32]]
/-- From kid i on, with a text between. -/
def kidsE (rec : Nat → List (List UInt8)) (n : Nd) (by_ : List UInt8) : Nat → List (List UInt8)
  | 0 => []
  | m + 1 => kidsE rec n by_ m ++ (if 0 < m then [by_] else []) ++ kidE rec n m
def semE (l : List Nd) (n : Nd) (m : Nat) : List (List UInt8) := if (ndF l (n.kids.getD (m - 1) 0)).kind = 7 then [[32]] else [[59], [32]]
def seqE (l : List Nd) (rec : Nat → List (List UInt8)) (n : Nd) : Nat → List (List UInt8)
  | 0 => []
  | m + 1 => seqE l rec n m ++ (if 0 < m then semE l n m else []) ++ kidE rec n m
def joinF : List (List UInt8) → List UInt8
  | [] => []
  | [s] => s
  | s :: r => s ++ [32, 124, 32] ++ joinF r
def patsE (rec : Nat → List (List UInt8)) (n : Nd) : Nat → List (List UInt8)
  | 0 => []
  | m + 1 => patsE rec n m ++ [[32, 40], joinF (n.pats.getD m []), [41]] ++ (match n.kids[m]? with
    | some k => if 0 ≤ k then [[32]] ++ rec k.toNat else []
    | none => []) ++ [[59, 59]]
def casesE (rec : Nat → List (List UInt8)) (n : Nd) : List (List UInt8) := [[99, 97, 115, 101, 32], n.words.headD [], [32, 105, 110]] ++ patsE rec n n.pats.length ++ [[32, 101, 115, 97, 99]]
def elifB (l : List Nd) (n : Nd) : Bool := match n.kids[2]? with
  | some k => decide (0 ≤ k) && (ndF l k).kind == 10 && (ndF l k).redirs.isEmpty
  | none => false
def redE (x : Rd) : List UInt8 := (if 0 ≤ x.fd ∧ x.fd ≤ 9 then [UInt8.ofNat (48 + x.fd.toNat)] else []) ++ (x.op ++ x.wd)
def bodyE (l : List Nd) (rec : Nat → List (List UInt8)) (n : Nd) : List (List UInt8) :=
  if n.kind = 1 then wordsE n.sets false ++ wordsE n.words (wordsM n.sets false)
  else if n.kind = 2 then [[33, 32]] ++ kidE rec n 0
  else if n.kind = 7 then kidE rec n 0 ++ [[32, 38]]
  else if n.kind = 3 then kidsE rec n [32, 124, 32] n.kids.length
  else if n.kind = 4 then kidsE rec n [32, 38, 38, 32] n.kids.length
  else if n.kind = 5 then kidsE rec n [32, 124, 124, 32] n.kids.length
  else if n.kind = 6 then seqE l rec n n.kids.length
  else if n.kind = 8 then [[123, 32]] ++ listE l rec n 0 ++ [[125]]
  else if n.kind = 9 then [[40, 32]] ++ kidE rec n 0 ++ [[32, 41]]
  else if n.kind = 10 then [[105, 102, 32]] ++ listE l rec n 0 ++ [[116, 104, 101, 110, 32]] ++ listE l rec n 1 ++
    (if elifB l n = true then [[101, 108]] ++ kidE rec n 2 else if 2 < n.kids.length then [[101, 108, 115, 101, 32]] ++ listE l rec n 2 ++ [[102, 105]] else [[102, 105]])
  else if n.kind = 11 ∨ n.kind = 12 then [if n.kind = 11 then [119, 104, 105, 108, 101, 32] else [117, 110, 116, 105, 108, 32]] ++ listE l rec n 0 ++ [[100, 111, 32]] ++ listE l rec n 1 ++ [[100, 111, 110, 101]]
  else if n.kind = 13 then [[102, 111, 114, 32], n.name] ++ (if n.inn = true then [[32, 105, 110]] ++ wordsE n.words true else []) ++ [[59, 32, 100, 111, 32]] ++ listE l rec n 0 ++ [[100, 111, 110, 101]]
  else if n.kind = 14 then casesE rec n
  else if n.kind = 15 then [n.name, [40, 41, 32]] ++ kidE rec n 0
  else []
def moreB (n : Nd) : Bool := if n.kind = 1 then wordsM n.words (wordsM n.sets false) else true
/-- What a node puts. -/
def nodeE (l : List Nd) : Nat → Nat → List (List UInt8)
  | 0, _ => []
  | f + 1, i => bodyE l (nodeE l f) (ndF l i) ++ wordsE ((ndF l i).redirs.map redE) (moreB (ndF l i))
/-- Where a node's kids begin, if they stand in order. -/
def ordK (bs : List Nat) (c : Bool) : List Int → Nat → Option Nat
  | [], f => some f
  | k :: r, f => if k = -1 ∧ c = true then ordK bs c r f else if f = 0 ∨ k ≠ (f : Int) - 1 then none else ordK bs c r (bs.getD (f - 1) 0)
def ordL : List Nd → List Nat → Option (List Nat)
  | [], bs => some bs
  | n :: r, bs => match ordK bs (n.kind == 14) n.kids.reverse bs.length with
    | some b => ordL r (bs ++ [b])
    | none => none
def ordB (l : List Nd) : Bool := decide (1 ≤ l.length) && decide (l.length ≤ 300) && match ordL l [] with
  | some bs => bs.getLastD 1 == 0
  | none => false
instance : DecidableEq Rd := fun ⟨a, b, c⟩ ⟨d, e, f⟩ => decidable_of_iff (a = d ∧ b = e ∧ c = f) (by simp)
instance : DecidableEq Nd := fun ⟨a, b, c, d, e, f, g, h⟩ ⟨a', b', c', d', e', f', g', h'⟩ => decidable_of_iff (a = a' ∧ b = b' ∧ c = c' ∧ d = d' ∧ e = e' ∧ f = f' ∧ g = g' ∧ h = h') (by simp)
def printF (l : List Nd) : List UInt8 :=
  if ordB l = true then
    let s := putsF [] (nodeE l l.length (l.length - 1))
    if 4096 < s.length then [] else if (parseF s).e = 0 ∧ (parseF s).ns = l then s else []
  else []
/-- A node's kids stand ahead of it. -/
def KidsOk (l : List Nd) : Prop := ∀ i (h : i < l.length), ∀ k ∈ l[i].kids, (k = -1 ∧ l[i].kind = 14) ∨ (0 ≤ k ∧ k < i)
theorem ordK_le {bs : List Nat} {c : Bool} (hb : ∀ i, i < bs.length → bs.getD i 0 ≤ i) : ∀ (ks : List Int) (f b : Nat), f ≤ bs.length → ordK bs c ks f = some b → b ≤ f ∧ ∀ k ∈ ks, (k = -1 ∧ c = true) ∨ (0 ≤ k ∧ k < f)
  | [], f, b, _, h => by
    injection h with h
    exact ⟨by omega, fun _ h => by cases h⟩
  | k :: r, f, b, hf, h => by
    rw [ordK] at h
    split at h
    · rename_i h1
      obtain ⟨h2, h3⟩ := ordK_le hb r f b hf h
      refine ⟨h2, fun k' hk => ?_⟩
      rw [List.mem_cons] at hk
      rcases hk with rfl | hk
      · exact .inl h1
      · exact h3 k' hk
    · split at h
      · cases h
      · rename_i h1 h2
        have h3 := hb (f - 1) (by omega)
        obtain ⟨h4, h5⟩ := ordK_le hb r _ b (by omega) h
        refine ⟨by omega, fun k' hk => ?_⟩
        rw [List.mem_cons] at hk
        rcases hk with rfl | hk
        · exact .inr (by omega)
        · rcases h5 k' hk with h | h
          · exact .inl h
          · exact .inr (by omega)
end Go.Proofs.Ytdhfhphbkfgamaa
