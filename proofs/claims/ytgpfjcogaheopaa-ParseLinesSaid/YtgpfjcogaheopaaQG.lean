/- The plain readers do the same on tokens that go on otherwise behind the end. -/
import Derived.Test.YtgpfjcogaheopaaQA
namespace Go.Proofs.Ytgpfjcogaheopaa
open Lx
set_option maxRecDepth 100000

/-- What may stand where a text's end stood: another end, or a line feed. -/
def Tl (tl : List Tok) : Prop := ∃ e r, tl = e :: r ∧ (e.k = 4 ∨ (e.k = 2 ∧ e.t = [10]))
/-- The same tokens, wherever they stand, up to the end. -/
inductive Sm (tl : List Tok) : List Tok → List Tok → Prop
  | base {e : Tok} : e.k = 4 → Sm tl [e] tl
  | cons {t t' : Tok} {r r' : List Tok} : t'.k = t.k → t'.t = t.t → Sm tl r r' → Sm tl (t :: r) (t' :: r')
/-- The end alone is left, and behind it something goes on. -/
def Aw (tl ts : List Tok) : Prop := sgnB tl sLf = true ∧ ∃ e, e.k = 4 ∧ ts = [e]
theorem is_end {e : Tok} (h : e.k = 4) (s : List UInt8) : isB [e] s = false := by simp [isB, sgnB, wrdB, h]
theorem Aw.is {tl ts : List Tok} (h : Aw tl ts) (s : List UInt8) : isB ts s = false := by
  obtain ⟨_, e, he, rfl⟩ := h
  exact is_end he s
theorem Aw.breaks {tl ts : List Tok} (h : Aw tl ts) : breaksF ts = ts := by
  obtain ⟨_, e, he, rfl⟩ := h
  simp [breaksF, he]
theorem Aw.begins {tl ts : List Tok} (h : Aw tl ts) : beginsB ts = false := by
  obtain ⟨_, e, he, rfl⟩ := h
  simp [beginsB, cmpB, rdrB, he]
theorem tl_is {tl : List Tok} (h : Tl tl) {s : List UInt8} (hs : s ≠ sLf) : isB tl s = false := by
  obtain ⟨e, r, rfl, h | ⟨h, h2⟩⟩ := h
  · simp [isB, sgnB, wrdB, h]
  · have : ([10] : List UInt8) ≠ s := fun e => hs e.symm
    simp [isB, sgnB, wrdB, h, h2, this]
theorem tl_lf {tl : List Tok} (h : Tl tl) : isB tl sLf = sgnB tl sLf := by
  obtain ⟨e, r, rfl, h | ⟨h, h2⟩⟩ := h
  · simp [isB, sgnB, wrdB, h]
  · simp [isB, sgnB, wrdB, h]
theorem Sm.is {tl ts ts' : List Tok} (ht : Tl tl) (h : Sm tl ts ts') {s : List UInt8} (hs : s ≠ sLf) : isB ts' s = isB ts s := by
  cases h with
  | base he => rw [tl_is ht hs, is_end he]
  | cons hk hx _ => simp only [isB, sgnB, wrdB, hk, hx]
theorem Sm.sgn {tl ts ts' : List Tok} (ht : Tl tl) (h : Sm tl ts ts') {s : List UInt8} (hs : s ≠ sLf) : sgnB ts' s = sgnB ts s := by
  cases h with
  | base he =>
    have h1 := tl_is ht hs
    have h2 := is_end he s
    unfold isB at h1 h2
    rw [Bool.or_eq_false_iff] at h1 h2
    rw [h1.1, h2.1]
  | cons hk hx _ => simp only [sgnB, hk, hx]
theorem Sm.wrd {tl ts ts' : List Tok} (ht : Tl tl) (h : Sm tl ts ts') {s : List UInt8} (hs : s ≠ sLf) : wrdB ts' s = wrdB ts s := by
  cases h with
  | base he =>
    have h1 := tl_is ht hs
    have h2 := is_end he s
    unfold isB at h1 h2
    rw [Bool.or_eq_false_iff] at h1 h2
    rw [h1.2, h2.2]
  | cons hk hx _ => simp only [wrdB, hk, hx]
theorem Sm.is_lf {tl ts ts' : List Tok} (ht : Tl tl) (h : Sm tl ts ts') : isB ts' sLf = isB ts sLf ∨ Aw tl ts := by
  cases h with
  | base he =>
    cases hl : sgnB tl sLf with
    | true => exact .inr ⟨hl, _, he, rfl⟩
    | false => left; rw [tl_lf ht, hl, is_end he]
  | cons hk hx _ => left; simp only [isB, sgnB, wrdB, hk, hx]
theorem Sm.tail_is {tl ts ts' : List Tok} (h : Sm tl ts ts') {s : List UInt8} (hs : isB ts s = true) : Sm tl ts.tail ts'.tail := by
  cases h with
  | base he => rw [is_end he] at hs; cases hs
  | cons _ _ h => exact h
theorem Sm.take {tl ts ts' : List Tok} (ht : Tl tl) (h : Sm tl ts ts') {s : List UInt8} (hs : s ≠ sLf) : Sm tl (takeT ts s) (takeT ts' s) := by
  unfold takeT
  rw [h.is ht hs]
  split
  · exact h.tail_is (by assumption)
  · exact h
theorem Sm.breaks {tl ts ts' : List Tok} (ht : Tl tl) (h : Sm tl ts ts') : Sm tl (breaksF ts) (breaksF ts') ∨ Aw tl (breaksF ts) := by
  induction h with
  | @base e he =>
    have hb : breaksF [e] = [e] := by simp [breaksF, he]
    rw [hb]
    cases hl : sgnB tl sLf with
    | true => exact .inr ⟨hl, _, he, rfl⟩
    | false =>
      left
      obtain ⟨e', r, rfl, _⟩ := ht
      have : breaksF (e' :: r) = e' :: r := by
        rw [breaksF]
        exact if_neg (by rw [show (e'.k == 2 && e'.t == sLf) = false from hl]; decide)
      rw [this]
      exact .base he
  | @cons t t' r r' hk hx h ih =>
    rw [breaksF, breaksF, hk, hx]
    split
    · exact ih
    · exact .inl (.cons hk hx h)
theorem Sm.begins {tl ts ts' : List Tok} (ht : Tl tl) (h : Sm tl ts ts') : beginsB ts' = beginsB ts := by
  cases h with
  | base he =>
    obtain ⟨e', r, rfl, h | ⟨h, h2⟩⟩ := ht
    · simp [beginsB, cmpB, rdrB, he, h]
    · simp [beginsB, cmpB, rdrB, he, h, h2, sPar, rdrW]
  | cons hk hx _ => simp only [beginsB, cmpB, rdrB, hk, hx]
theorem Sm.cmp {tl ts ts' : List Tok} (ht : Tl tl) (h : Sm tl ts ts') : cmpH ts' = cmpH ts := by
  cases h with
  | base he =>
    obtain ⟨e', r, rfl, h | ⟨h, h2⟩⟩ := ht
    · simp [cmpH, cmpB, he, h]
    · simp [cmpH, cmpB, he, h, h2, sPar]
  | cons hk hx _ => simp only [cmpH, cmpB, hk, hx]
theorem Sm.wk {tl ts ts' : List Tok} (ht : Tl tl) (h : Sm tl ts ts') : wkB ts' = wkB ts := by
  cases h with
  | base he =>
    obtain ⟨e', r, rfl, h | ⟨h, h2⟩⟩ := ht
    · simp [wkB, he, h]
    · simp [wkB, he, h]
  | cons hk hx _ => simp only [wkB, hk]
theorem Sm.wk_tail {tl ts ts' : List Tok} (h : Sm tl ts ts') (hw : wkB ts = true) (d d' : Tok) : Sm tl ts.tail ts'.tail ∧ (ts'.headD d').t = (ts.headD d).t := by
  cases h with
  | base he => simp [wkB, he] at hw
  | cons hk hx h => exact ⟨h, hx⟩
theorem Sm.rdr {tl ts ts' : List Tok} (ht : Tl tl) (h : Sm tl ts ts') (d d' : Tok) : rdrB (ts'.headD d') = rdrB (ts.headD d) := by
  cases h with
  | base he =>
    obtain ⟨e', r, rfl, h | ⟨h, h2⟩⟩ := ht
    · simp [rdrB, he, h]
    · simp [rdrB, he, h, h2, rdrW]
  | cons hk hx _ => simp only [rdrB, List.headD_cons, hk, hx]
theorem Sm.rdr_tail {tl ts ts' : List Tok} (h : Sm tl ts ts') (d d' : Tok) (hr : rdrB (ts.headD d) = true) : Sm tl ts.tail ts'.tail ∧ (ts'.headD d').t = (ts.headD d).t := by
  cases h with
  | base he => simp [rdrB, he] at hr
  | cons hk hx h => exact ⟨h, hx⟩
theorem Sm.fun_ {tl ts ts' : List Tok} (ht : Tl tl) (h : Sm tl ts ts') : funB ts' = funB ts := by
  cases h with
  | base he =>
    obtain ⟨e', r, rfl, h⟩ := ht
    have : namedB e' = false := by
      rcases h with h | ⟨h, _⟩ <;> simp [namedB, h]
    unfold funB
    cases r with
    | nil => rfl
    | cons u r => simp [this]
  | @cons t t' r r' hk hx h =>
    cases h with
    | base he =>
      obtain ⟨e', r, rfl, h | ⟨h, h2⟩⟩ := ht
      · simp [funB, he, h]
      · simp [funB, he, h, h2, sPar]
    | cons hk2 hx2 _ => simp only [funB, namedB, hk, hx, hk2, hx2]

/-! ### answers that are alike -/
def Rel {α β : Type} (tl : List Tok) (c : Nat) (V : α → β → Prop) (p : PR α) (p' : PR β) : Prop := ∀ x ts ns, p = .ok x ts ns → ∃ x' ts' ns', p' = .ok x' ts' ns' ∧ Sm tl ts ts' ∧ ns'.length = ns.length + c ∧ V x x'
def RelL {α β : Type} (tl : List Tok) (c : Nat) (V : α → β → Prop) (p : PR α) (p' : PR β) : Prop := ∀ x ts ns, p = .ok x ts ns → Aw tl ts ∨ ∃ x' ts' ns', p' = .ok x' ts' ns' ∧ Sm tl ts ts' ∧ ns'.length = ns.length + c ∧ V x x'
def Any {α β : Type} (_ : α) (_ : β) : Prop := True
section
variable {α β γ δ : Type} {tl : List Tok} {c : Nat}
theorem Rel.bad {V : α → β → Prop} (a e : Int) (p' : PR β) : Rel tl c V (.bad a e) p' := fun _ _ _ h => by cases h
theorem Rel.wrong {V : α → β → Prop} (ts : List Tok) (p' : PR β) : Rel tl c V (wrongR ts) p' := fun _ _ _ h => (wrong_ok h).elim
theorem Rel.ok {V : α → β → Prop} {x : α} {x' : β} {ts ts' : List Tok} {ns ns' : List Nd} (hs : Sm tl ts ts') (hn : ns'.length = ns.length + c) (hv : V x x') : Rel tl c V (.ok x ts ns) (.ok x' ts' ns') := fun _ _ _ h => by
  injection h with h1 h2 h3
  subst h1 h2 h3
  exact ⟨_, _, _, rfl, hs, hn, hv⟩
theorem Rel.l {V : α → β → Prop} {p : PR α} {p' : PR β} (h : Rel tl c V p p') : RelL tl c V p p' := fun _ _ _ hp => .inr (h _ _ _ hp)
theorem Rel.mono {V W : α → β → Prop} {p : PR α} {p' : PR β} (h : Rel tl c V p p') (hm : ∀ x x', V x x' → W x x') : Rel tl c W p p' := fun _ _ _ hp => by
  obtain ⟨x', ts', ns', h1, h2, h3, h4⟩ := h _ _ _ hp
  exact ⟨x', ts', ns', h1, h2, h3, hm _ _ h4⟩
theorem Rel.bind {V : α → β → Prop} {W : γ → δ → Prop} {p : PR α} {p' : PR β} {f : α → List Tok → List Nd → PR γ} {f' : β → List Tok → List Nd → PR δ} (h : Rel tl c V p p')
    (hf : ∀ x x' ts ts' ns ns', V x x' → Sm tl ts ts' → ns'.length = ns.length + c → Rel tl c W (f x ts ns) (f' x' ts' ns')) : Rel tl c W (p.bind f) (p'.bind f') := fun y us ms hp => by
  obtain ⟨x, ts, ns, h1, h2⟩ := bind_eq hp
  obtain ⟨x', ts', ns', h3, h4, h5, h6⟩ := h _ _ _ h1
  rw [h3]
  exact hf _ _ _ _ _ _ h6 h4 h5 _ _ _ h2
theorem Rel.bindL {V : α → β → Prop} {W : γ → δ → Prop} {p : PR α} {p' : PR β} {f : α → List Tok → List Nd → PR γ} {f' : β → List Tok → List Nd → PR δ} (h : Rel tl c V p p')
    (hf : ∀ x x' ts ts' ns ns', V x x' → Sm tl ts ts' → ns'.length = ns.length + c → RelL tl c W (f x ts ns) (f' x' ts' ns')) : RelL tl c W (p.bind f) (p'.bind f') := fun y us ms hp => by
  obtain ⟨x, ts, ns, h1, h2⟩ := bind_eq hp
  obtain ⟨x', ts', ns', h3, h4, h5, h6⟩ := h _ _ _ h1
  rw [h3]
  exact hf _ _ _ _ _ _ h6 h4 h5 _ _ _ h2
theorem RelL.bind {V : α → β → Prop} {W : γ → δ → Prop} {p : PR α} {p' : PR β} {f : α → List Tok → List Nd → PR γ} {f' : β → List Tok → List Nd → PR δ} (h : RelL tl c V p p')
    (ha : ∀ x ts ns y us ms, Aw tl ts → f x ts ns = .ok y us ms → False)
    (hf : ∀ x x' ts ts' ns ns', V x x' → Sm tl ts ts' → ns'.length = ns.length + c → Rel tl c W (f x ts ns) (f' x' ts' ns')) : Rel tl c W (p.bind f) (p'.bind f') := fun y us ms hp => by
  obtain ⟨x, ts, ns, h1, h2⟩ := bind_eq hp
  rcases h _ _ _ h1 with hA | ⟨x', ts', ns', h3, h4, h5, h6⟩
  · exact (ha _ _ _ _ _ _ hA h2).elim
  · rw [h3]
    exact hf _ _ _ _ _ _ h6 h4 h5 _ _ _ h2
theorem RelL.bindL {V : α → β → Prop} {W : γ → δ → Prop} {p : PR α} {p' : PR β} {f : α → List Tok → List Nd → PR γ} {f' : β → List Tok → List Nd → PR δ} (h : RelL tl c V p p')
    (ha : ∀ x ts ns y us ms, Aw tl ts → f x ts ns = .ok y us ms → Aw tl us)
    (hf : ∀ x x' ts ts' ns ns', V x x' → Sm tl ts ts' → ns'.length = ns.length + c → RelL tl c W (f x ts ns) (f' x' ts' ns')) : RelL tl c W (p.bind f) (p'.bind f') := fun y us ms hp => by
  obtain ⟨x, ts, ns, h1, h2⟩ := bind_eq hp
  rcases h _ _ _ h1 with hA | ⟨x', ts', ns', h3, h4, h5, h6⟩
  · exact .inl (ha _ _ _ _ _ _ hA h2)
  · rw [h3]
    exact hf _ _ _ _ _ _ h6 h4 h5 _ _ _ h2
theorem Rel.ite {V : α → β → Prop} {b b' : Bool} {p q : PR α} {p' q' : PR β} (hb : b' = b) (h1 : b = true → Rel tl c V p p') (h2 : b = false → Rel tl c V q q') : Rel tl c V (if b = true then p else q) (if b' = true then p' else q') := by
  subst hb
  cases b' with
  | true => exact h1 rfl
  | false => exact h2 rfl
theorem RelL.ite {V : α → β → Prop} {b b' : Bool} {p q : PR α} {p' q' : PR β} (hb : b' = b) (h1 : b = true → RelL tl c V p p') (h2 : b = false → RelL tl c V q q') : RelL tl c V (if b = true then p else q) (if b' = true then p' else q') := by
  subst hb
  cases b' with
  | true => exact h1 rfl
  | false => exact h2 rfl
theorem Rel.dite {V : α → β → Prop} {P P' : Prop} [Decidable P] [Decidable P'] {p q : PR α} {p' q' : PR β} (hb : P' ↔ P) (h1 : P → Rel tl c V p p') (h2 : ¬ P → Rel tl c V q q') : Rel tl c V (if P then p else q) (if P' then p' else q') := by
  by_cases h : P
  · rw [if_pos h, if_pos (hb.2 h)]; exact h1 h
  · rw [if_neg h, if_neg (fun x => h (hb.1 x))]; exact h2 h
theorem Rel.lay {n n' : Nd} {ts ts' : List Tok} {ns ns' : List Nd} (hs : Sm tl ts ts') (hn : ns'.length = ns.length + c) : Rel tl c Any (layR n ts ns) (layR n' ts' ns') := Rel.ok hs (by simp; omega) trivial
theorem Rel.need {ts ts' : List Tok} {ns ns' : List Nd} (ht : Tl tl) {s : List UInt8} (hsl : s ≠ sLf) (hs : Sm tl ts ts') (hn : ns'.length = ns.length + c) : Rel tl c Any (needR s ts ns) (needR s ts' ns') := by
  unfold needR
  exact Rel.ite (hs.is ht hsl) (fun h => Rel.ok (hs.tail_is h) hn trivial) (fun _ => Rel.wrong _ _)
theorem need_aw {ts : List Tok} {ns : List Nd} {s : List UInt8} {y : Unit} {us : List Tok} {ms : List Nd} (h : Aw tl ts) (hp : needR s ts ns = .ok y us ms) : False := by
  unfold needR at hp
  rw [h.is] at hp
  exact wrong_ok hp
theorem Rel.need_brk {ts ts' : List Tok} {ns ns' : List Nd} (ht : Tl tl) {s : List UInt8} (hsl : s ≠ sLf) (hs : Sm tl ts ts') (hn : ns'.length = ns.length + c) : Rel tl c Any (needR s (breaksF ts) ns) (needR s (breaksF ts') ns') := by
  rcases hs.breaks ht with h | h
  · exact Rel.need ht hsl h hn
  · exact fun _ _ _ hp => (need_aw h hp).elim
theorem needB_aw {α : Type} {ts : List Tok} {ns : List Nd} {s : List UInt8} {f : Unit → List Tok → List Nd → PR α} {y : α} {us : List Tok} {ms : List Nd} (h : Aw tl ts) (hp : (needR s ts ns).bind f = .ok y us ms) : False := by
  obtain ⟨x, t1, n1, h1, _⟩ := bind_eq hp
  exact need_aw h h1
/-- Readers that do alike. -/
def RdSm (tl : List Tok) (c : Nat) (r r' : Rdr) : Prop := ∀ ts ts' ns ns', Sm tl ts ts' → ns'.length = ns.length + c → Rel tl c Any (r ts ns) (r' ts' ns')
def RdLm (tl : List Tok) (c : Nat) (r r' : Rdr) : Prop := ∀ ts ts' ns ns', Sm tl ts ts' → ns'.length = ns.length + c → RelL tl c Any (r ts ns) (r' ts' ns')
/-- Nothing is read of the end alone. -/
def NoE (r : Rdr) : Prop := ∀ e ns x ts ns', e.k = 4 → r [e] ns = .ok x ts ns' → False
theorem NoE.aw {r : Rdr} (h : NoE r) {ts : List Tok} (ha : Aw tl ts) {ns : List Nd} {x : Int} {us : List Tok} {ms : List Nd} (hp : r ts ns = .ok x us ms) : False := by
  obtain ⟨_, e, he, rfl⟩ := ha
  exact h _ _ _ _ _ he hp
theorem RdSm.brk {r r' : Rdr} (h : RdSm tl c r r') (hn : NoE r) (ht : Tl tl) {ts ts' : List Tok} {ns ns' : List Nd} (hs : Sm tl ts ts') (hl : ns'.length = ns.length + c) : Rel tl c Any (r (breaksF ts) ns) (r' (breaksF ts') ns') := by
  rcases hs.breaks ht with h1 | h1
  · exact h _ _ _ _ h1 hl
  · exact fun _ _ _ hp => (hn.aw h1 hp).elim

/-! ### lists, items, pipes -/
def Vl (ck : Nat) (b0 b0' : Bool) (k k' : List Int × Bool) : Prop := k'.1.length = k.1.length + ck ∧ (b0' = b0 → k'.2 = k.2)
theorem list_loop_s {item item' : Rdr} (ht : Tl tl) (hi : RdSm tl c item item') (ck : Nat) : ∀ (f f' : Nat) (kids kids' : List Int) (back back' : Bool) (ts ts' : List Tok) (ns ns' : List Nd), f ≤ f' → kids'.length = kids.length + ck → Sm tl ts ts' → ns'.length = ns.length + c →
    RelL tl c (Vl ck back back') (listL item f kids back ts ns) (listL item' f' kids' back' ts' ns') := by
  intro f
  induction f with
  | zero => intro f' kids kids' back back' ts ts' ns ns' _ _ _ _; exact (Rel.bad _ _ _).l
  | succ f ih =>
    intro f' kids kids' back back' ts ts' ns ns' hf hk hs hn
    obtain ⟨g, rfl⟩ : ∃ g, f' = g + 1 := ⟨f' - 1, by omega⟩
    rw [listL, listL]
    refine Rel.bindL (hi _ _ _ _ hs hn) ?_
    intro x x' t1 t1' n1 n1' _ hs1 hn1
    have ea := hs1.is ht (s := sAmp) (by decide)
    have hst := hs1.take ht (s := sAmp) (by decide)
    simp only [ea]
    generalize hamp : isB t1 sAmp = amp
    generalize htt : takeT t1 sAmp = tt at hst
    generalize htt' : takeT t1' sAmp = tt' at hst
    have hn2 : (if amp = true then n1' ++ [({ kind := 7, kids := [x'] } : Nd)] else n1').length = (if amp = true then n1 ++ [({ kind := 7, kids := [x] } : Nd)] else n1).length + c := by
      cases amp <;> simp <;> omega
    generalize (if amp = true then n1' ++ [({ kind := 7, kids := [x'] } : Nd)] else n1') = m' at hn2 ⊢
    generalize (if amp = true then n1 ++ [({ kind := 7, kids := [x] } : Nd)] else n1) = m at hn2 ⊢
    generalize (if amp = true then (n1.length : Int) else x) = y
    generalize (if amp = true then (n1'.length : Int) else x') = y'
    have hk2 : (kids' ++ [y']).length = (kids ++ [y]).length + ck := by simp; omega
    have hv : Vl ck back back' (kids ++ [y], back || amp) (kids' ++ [y'], back' || amp) := ⟨hk2, fun h => by rw [h]⟩
    have ebs := hst.is ht (s := sSemi) (by decide)
    rcases hst.is_lf ht with el | hA
    · rw [ebs, el]
      refine RelL.ite rfl (fun hsep => ?_) (fun _ => (Rel.ok hst hn2 hv).l)
      have hsu : Sm tl (if amp = true then tt else tt.tail) (if amp = true then tt' else tt'.tail) := by
        cases amp with
        | true => exact hst
        | false =>
          simp only [Bool.false_or, Bool.or_eq_true] at hsep
          rcases hsep with h | h <;> exact hst.tail_is h
      rcases hsu.breaks ht with hb | hb
      · refine RelL.ite (hb.begins ht) (fun _ => ?_) (fun _ => (Rel.ok hb hn2 hv).l)
        have := ih g (kids ++ [y]) (kids' ++ [y']) (back || amp) (back' || amp) _ _ _ _ (by omega) hk2 hb hn2
        intro z us ms hz
        rcases this z us ms hz with h | ⟨z', us', ms', h1, h2, h3, h4, h5⟩
        · exact .inl h
        · exact .inr ⟨z', us', ms', h1, h2, h3, h4, fun hbk => h5 (by rw [hbk])⟩
      · rw [if_neg (by rw [hb.begins]; decide)]
        intro z us ms hz
        injection hz with _ h2 _
        rw [← h2]
        exact .inl hb
    · intro z us ms hz
      left
      rw [hA.is, hA.is] at hz
      cases amp with
      | true =>
        simp only [Bool.true_or, if_true] at hz
        rw [hA.breaks, hA.begins] at hz
        injection hz with _ h2 _
        rw [← h2]
        exact hA
      | false =>
        simp only [Bool.or_false, Bool.false_eq_true, if_false] at hz
        injection hz with _ h2 _
        rw [← h2]
        exact hA
theorem list_s {item item' : Rdr} (ht : Tl tl) (hi : RdSm tl c item item') (hne : NoE item) (hfl : ∀ ts ts', Sm tl ts ts' → ts.length ≤ ts'.length) : RdLm tl c (listF item) (listF item') := by
  intro ts ts' ns ns' hs hn
  unfold listF
  rcases hs.breaks ht with hb | hb
  · refine RelL.bindL (list_loop_s ht hi 0 _ _ [] [] false false _ _ _ _ (by have := hfl _ _ hs; omega) rfl hb hn) ?_ ?_
    · intro x t1 n1 y us ms hA hp
      rw [hA.breaks] at hp
      split at hp
      · split at hp
        · obtain ⟨_, rfl, _⟩ := lay_ok hp; exact hA
        · injection hp with _ h _; rw [← h]; exact hA
      · obtain ⟨_, rfl, _⟩ := lay_ok hp; exact hA
    · rintro ⟨k, b⟩ ⟨k', b'⟩ t1 t1' n1 n1' ⟨hk, hbb⟩ hs1 hn1
      have hbb := hbb rfl
      simp only [] at hk hbb
      subst hbb
      rcases hs1.breaks ht with h1 | h1
      · match k, k', hk with
        | [], [], _ => exact (Rel.lay h1 hn1).l
        | [x], [x'], _ => exact RelL.ite rfl (fun _ => (Rel.lay h1 hn1).l) (fun _ => (Rel.ok h1 hn1 trivial).l)
        | x :: y :: l, x' :: y' :: l', _ => exact (Rel.lay h1 hn1).l
      · intro z us ms hp
        left
        simp only [] at hp
        split at hp
        · split at hp
          · obtain ⟨_, rfl, _⟩ := lay_ok hp; exact h1
          · injection hp with _ h _; rw [← h]; exact h1
        · obtain ⟨_, rfl, _⟩ := lay_ok hp; exact h1
  · intro z us ms hp
    exfalso
    obtain ⟨k, t1, n1, he, _⟩ := bind_eq hp
    rw [listL] at he
    obtain ⟨x, t2, n2, he2, _⟩ := bind_eq he
    exact hne.aw hb he2
theorem item_loop_s {pipe pipe' : Rdr} (ht : Tl tl) (hi : RdSm tl c pipe pipe') (hne : NoE pipe) : ∀ (f f' : Nat) (x x' : Int) (ts ts' : List Tok) (ns ns' : List Nd), f ≤ f' → Sm tl ts ts' → ns'.length = ns.length + c → Rel tl c Any (itemL pipe f x ts ns) (itemL pipe' f' x' ts' ns') := by
  intro f
  induction f with
  | zero => intro f' x x' ts ts' ns ns' _ _ _; exact Rel.bad _ _ _
  | succ f ih =>
    intro f' x x' ts ts' ns ns' hf hs hn
    obtain ⟨g, rfl⟩ : ∃ g, f' = g + 1 := ⟨f' - 1, by omega⟩
    rw [itemL, itemL]
    refine Rel.ite (hs.is ht (by decide)) (fun h => ?_) (fun _ => Rel.ite (hs.is ht (by decide)) (fun h => ?_) (fun _ => Rel.ok hs hn trivial))
    · exact Rel.bind (hi.brk hne ht (hs.tail_is h) hn) fun y y' t1 t1' n1 n1' _ hs1 hn1 => ih _ _ _ _ _ _ _ (by omega) hs1 (by simp; omega)
    · exact Rel.bind (hi.brk hne ht (hs.tail_is h) hn) fun y y' t1 t1' n1 n1' _ hs1 hn1 => ih _ _ _ _ _ _ _ (by omega) hs1 (by simp; omega)
theorem item_s {pipe pipe' : Rdr} (ht : Tl tl) (hi : RdSm tl c pipe pipe') (hne : NoE pipe) (hfl : ∀ ts ts', Sm tl ts ts' → ts.length ≤ ts'.length) : RdSm tl c (itemF pipe) (itemF pipe') := by
  intro ts ts' ns ns' hs hn
  unfold itemF
  exact Rel.bind (hi _ _ _ _ hs hn) fun x x' t1 t1' n1 n1' _ hs1 hn1 => item_loop_s ht hi hne _ _ _ _ _ _ _ _ (by have := hfl _ _ hs1; omega) hs1 hn1
theorem item_noE {pipe : Rdr} (h : NoE pipe) : NoE (itemF pipe) := by
  intro e ns x ts ns' he hp
  obtain ⟨y, t1, n1, h1, _⟩ := bind_eq hp
  exact h _ _ _ _ _ he h1
theorem pipe_loop_s {cmd cmd' : Rdr} (ht : Tl tl) (hi : RdSm tl c cmd cmd') (hne : NoE cmd) : ∀ (f f' : Nat) (kids kids' : List Int) (ts ts' : List Tok) (ns ns' : List Nd), f ≤ f' → kids'.length = kids.length → Sm tl ts ts' → ns'.length = ns.length + c → Rel tl c (fun k k' => k'.length = k.length) (pipeL cmd f kids ts ns) (pipeL cmd' f' kids' ts' ns') := by
  intro f
  induction f with
  | zero => intro f' x x' ts ts' ns ns' _ _ _ _; exact Rel.bad _ _ _
  | succ f ih =>
    intro f' x x' ts ts' ns ns' hf hk hs hn
    obtain ⟨g, rfl⟩ : ∃ g, f' = g + 1 := ⟨f' - 1, by omega⟩
    rw [pipeL, pipeL]
    refine Rel.ite (hs.is ht (by decide)) (fun h => ?_) (fun _ => Rel.ok hs hn hk)
    exact Rel.bind (hi.brk hne ht (hs.tail_is h) hn) fun y y' t1 t1' n1 n1' _ hs1 hn1 => ih _ _ _ _ _ _ _ (by omega) (by simp; omega) hs1 hn1
theorem not_s {b b' : Bool} {x x' : Int} {ts ts' : List Tok} {ns ns' : List Nd} (hb : b' = b) (hs : Sm tl ts ts') (hn : ns'.length = ns.length + c) : Rel tl c Any (notR b x ts ns) (notR b' x' ts' ns') := by
  unfold notR
  exact Rel.ite hb (fun _ => Rel.lay hs hn) (fun _ => Rel.ok hs hn trivial)
theorem pipe_s {cmd cmd' : Rdr} (ht : Tl tl) (hi : RdSm tl c cmd cmd') (hne : NoE cmd) (hfl : ∀ ts ts', Sm tl ts ts' → ts.length ≤ ts'.length) : RdSm tl c (pipeF cmd) (pipeF cmd') := by
  intro ts ts' ns ns' hs hn
  unfold pipeF
  have eb := hs.is ht (s := wBang) (by decide)
  refine Rel.bind (hi _ _ _ _ (hs.take ht (by decide)) hn) fun x x' t1 t1' n1 n1' _ hs1 hn1 => ?_
  refine Rel.bind (pipe_loop_s ht hi hne _ _ [x] [x'] _ _ _ _ (by have := hfl _ _ hs1; omega) rfl hs1 hn1) fun k k' t2 t2' n2 n2' hk hs2 hn2 => ?_
  exact Rel.dite (by rw [hk]) (fun _ => not_s eb hs2 (by simp; omega)) (fun _ => not_s eb hs2 hn2)
theorem take_end {e : Tok} (he : e.k = 4) (s : List UInt8) : takeT [e] s = [e] := by
  unfold takeT
  rw [is_end he]
  rfl
theorem pipe_noE {cmd : Rdr} (h : NoE cmd) : NoE (pipeF cmd) := by
  intro e ns x ts ns' he hp
  obtain ⟨y, t1, n1, h1, _⟩ := bind_eq hp
  rw [take_end he] at h1
  exact h _ _ _ _ _ he h1

/-! ### redirections, simple commands -/
theorem redir_s (ht : Tl tl) : ∀ (f f' : Nat) (acc : List Rd) (ts ts' : List Tok) (ns ns' : List Nd), f ≤ f' → Sm tl ts ts' → ns'.length = ns.length + c → Rel tl c Eq (redirL f acc ts ns) (redirL f' acc ts' ns') := by
  intro f
  induction f with
  | zero => intro f' acc ts ts' ns ns' _ _ _; exact Rel.bad _ _ _
  | succ f ih =>
    intro f' acc ts ts' ns ns' hf hs hn
    obtain ⟨g, rfl⟩ : ∃ g, f' = g + 1 := ⟨f' - 1, by omega⟩
    have hs0 := hs
    cases hs with
    | @base e he =>
      have h1 := hs0.rdr ht e e
      obtain ⟨e', r, rfl, h⟩ := ht
      have h2 : rdrB e = false := by simp [rdrB, he]
      have h3 : rdrB e' = false := by
        have := h1
        simp only [List.headD_cons] at this
        rw [this, h2]
      have h4 : (e'.k == 3) = false := by rcases h with h | ⟨h, _⟩ <;> simp [h]
      have h5 : (e.k == 3) = false := by simp [he]
      rw [redirL, redirL, h2, h3, h4, h5]
      simp only [Bool.false_and, Bool.false_eq_true, if_false]
      exact Rel.ok hs0 hn rfl
    | @cons t t' r r' hk hx hr =>
      rw [redirL, redirL]
      have hrd : rdrB t' = rdrB t := by simp only [rdrB, hk, hx]
      refine Rel.ite (by rw [hk, hr.rdr ht t t']) (fun h => ?_) (fun _ => Rel.ite hrd (fun h => ?_) (fun _ => Rel.ok hs0 hn rfl))
      · rw [Bool.and_eq_true] at h
        obtain ⟨q1, q2⟩ := hr.rdr_tail t t' h.2
        refine Rel.ite (q1.wk ht) (fun hw => ?_) (fun _ => Rel.wrong _ _)
        obtain ⟨q3, q4⟩ := q1.wk_tail hw t t'
        rw [hx, q2, q4]
        exact ih _ _ _ _ _ _ (by omega) q3 hn
      · refine Rel.ite (hr.wk ht) (fun hw => ?_) (fun _ => Rel.wrong _ _)
        obtain ⟨q3, q4⟩ := hr.wk_tail hw t t'
        rw [hx, q4]
        exact ih _ _ _ _ _ _ (by omega) q3 hn
theorem redirF_s (ht : Tl tl) (hfl : ∀ ts ts', Sm tl ts ts' → ts.length ≤ ts'.length) {ts ts' : List Tok} {ns ns' : List Nd} (hs : Sm tl ts ts') (hn : ns'.length = ns.length + c) : Rel tl c Eq (redirF ts ns) (redirF ts' ns') :=
  redir_s ht _ _ _ _ _ _ _ (by have := hfl _ _ hs; omega) hs hn
theorem sim_s (ht : Tl tl) (hfl : ∀ ts ts', Sm tl ts ts' → ts.length ≤ ts'.length) : ∀ (f f' : Nat) (n : Nd) (ts ts' : List Tok) (ns ns' : List Nd), f ≤ f' → Sm tl ts ts' → ns'.length = ns.length + c → Rel tl c Eq (simL f n ts ns) (simL f' n ts' ns') := by
  intro f
  induction f with
  | zero => intro f' acc ts ts' ns ns' _ _ _; exact Rel.bad _ _ _
  | succ f ih =>
    intro f' n ts ts' ns ns' hf hs hn
    obtain ⟨g, rfl⟩ : ∃ g, f' = g + 1 := ⟨f' - 1, by omega⟩
    rw [simL, simL]
    refine Rel.bind (redirF_s ht hfl hs hn) ?_
    rintro l _ t1 t1' n1 n1' rfl hs1 hn1
    have hs0 := hs1
    cases hs1 with
    | @base e he =>
      obtain ⟨e', r, rfl, h⟩ := ht
      simp only []
      rw [if_pos (by omega), if_pos (by rcases h with h | ⟨h, _⟩ <;> omega)]
      exact Rel.ok hs0 hn1 rfl
    | @cons t t' r r' hk hx hr =>
      simp only [hk, hx]
      refine Rel.dite Iff.rfl (fun _ => Rel.ok hs0 hn1 rfl) (fun _ => Rel.dite Iff.rfl (fun _ => ih _ _ _ _ _ _ (by omega) hr hn1) (fun _ => Rel.dite Iff.rfl (fun _ => ih _ _ _ _ _ _ (by omega) hr hn1) (fun _ => Rel.dite Iff.rfl (fun _ => Rel.ok hs0 hn1 rfl) (fun _ => ih _ _ _ _ _ _ (by omega) hr hn1))))
theorem simF_s (ht : Tl tl) (hfl : ∀ ts ts', Sm tl ts ts' → ts.length ≤ ts'.length) : RdSm tl c simF simF := by
  intro ts ts' ns ns' hs hn
  unfold simF
  refine Rel.bind (sim_s ht hfl _ _ _ _ _ _ _ (by have := hfl _ _ hs; omega) hs hn) ?_
  rintro n _ t1 t1' n1 n1' rfl hs1 hn1
  exact Rel.dite Iff.rfl (fun _ => Rel.wrong _ _) (fun _ => Rel.lay hs1 hn1)
theorem redir_end {e : Tok} (he : e.k = 4) (ns : List Nd) : redirF [e] ns = .ok [] [e] ns := by
  have h1 : rdrB e = false := by simp [rdrB, he]
  show redirL 2 [] [e] ns = _
  rw [redirL, h1]
  simp [he]
theorem simF_noE : NoE simF := by
  intro e ns x ts ns' he hp
  obtain ⟨n, t1, n1, h1, h2⟩ := bind_eq hp
  have : simL 2 { kind := 1 } [e] ns = .ok { kind := 1 } [e] ns := by
    rw [simL, redir_end he, PR.bind_ok]
    simp [he]
  have h1 : simL 2 { kind := 1 } [e] ns = .ok n t1 n1 := h1
  rw [this] at h1
  injection h1 with h3 h4 h5
  subst h3 h4 h5
  rw [if_pos (by decide)] at h2
  exact wrong_ok h2

/-! ### compounds -/
def DrS (tl : List Tok) (c : Nat) (r r' : Drd) : Prop := ∀ d, RdSm tl c (r d) (r' d)
theorem within_s {r r' : Drd} (h : DrS tl c r r') : DrS tl c (withinF r) (withinF r') := by
  intro d ts ts' ns ns' hs hn
  unfold withinF
  exact Rel.dite Iff.rfl (fun _ => Rel.bad _ _ _) (fun _ => h _ _ _ _ _ hs hn)
theorem cmp_s {r r' : Drd} (ht : Tl tl) (hfl : ∀ ts ts', Sm tl ts ts' → ts.length ≤ ts'.length) (h : DrS tl c r r') : DrS tl c (cmpF r) (cmpF r') := by
  intro d ts ts' ns ns' hs hn
  unfold cmpF
  refine Rel.bind (within_s h d _ _ _ _ hs hn) fun x x' t1 t1' n1 n1' _ hs1 hn1 => ?_
  refine Rel.bind (redirF_s ht hfl hs1 hn1) ?_
  rintro l _ t2 t2' n2 n2' rfl hs2 hn2
  exact Rel.ok hs2 (by simp [setRd]; omega) trivial
theorem fun_s {r r' : Drd} (ht : Tl tl) (h : DrS tl c r r') (d : Nat) {ts ts' : List Tok} {ns ns' : List Nd} (hs : Sm tl ts ts') (hn : ns'.length = ns.length + c) (hf : funB ts = true) : Rel tl c Any (funF r d ts ns) (funF r' d ts' ns') := by
  unfold funF
  cases hs with
  | base he => simp [funB] at hf
  | @cons t t' q q' hk hx hr =>
    refine Rel.bind (Rel.need ht (by decide) hr hn) fun _ _ t1 t1' n1 n1' _ hs1 hn1 => ?_
    refine Rel.bind (Rel.need ht (by decide) hs1 hn1) fun _ _ t2 t2' n2 n2' _ hs2 hn2 => ?_
    rcases hs2.breaks ht with h2 | h2
    · refine Rel.ite (h2.cmp ht) (fun _ => ?_) (fun _ => Rel.wrong _ _)
      exact Rel.bind (h d _ _ _ _ h2 hn2) fun x x' t3 t3' n3 n3' _ hs3 hn3 => Rel.lay hs3 hn3
    · obtain ⟨_, e, he, he2⟩ := h2
      rw [he2, if_neg (by simp [cmpH, cmpB, he])]
      exact Rel.wrong _ _
theorem cmd_s {r r' : Drd} (ht : Tl tl) (hfl : ∀ ts ts', Sm tl ts ts' → ts.length ≤ ts'.length) (h : DrS tl c r r') : DrS tl c (cmdF r) (cmdF r') := by
  intro d ts ts' ns ns' hs hn
  unfold cmdF
  refine Rel.ite (hs.cmp ht) (fun _ => h _ _ _ _ _ hs hn) (fun _ => Rel.ite (hs.fun_ ht) (fun hf => ?_) (fun _ => simF_s ht hfl _ _ _ _ hs hn))
  unfold withinF
  exact Rel.dite Iff.rfl (fun _ => Rel.bad _ _ _) (fun _ => fun_s ht h _ hs hn hf)
theorem cmd_noE (r : Drd) (d : Nat) : NoE (cmdF r d) := by
  intro e ns x ts ns' he hp
  have h1 : cmpH [e] = false := by simp [cmpH, cmpB, he]
  have h2 : funB [e] = false := rfl
  have h3 : cmdF r d [e] ns = simF [e] ns := by
    show (if cmpH [e] = true then r d [e] ns else if funB [e] = true then withinF (funF r) d [e] ns else simF [e] ns) = _
    rw [h1, h2]
    rfl
  rw [h3] at hp
  exact simF_noE _ _ _ _ _ he hp
def itm (r : Drd) (d : Nat) : Rdr := itemF (pipeF (cmdF r d))
theorem itm_noE (r : Drd) (d : Nat) : NoE (itm r d) := item_noE (pipe_noE (cmd_noE r d))
theorem itm_s {r r' : Drd} (ht : Tl tl) (hfl : ∀ ts ts', Sm tl ts ts' → ts.length ≤ ts'.length) (h : DrS tl c r r') (d : Nat) : RdSm tl c (itm r d) (itm r' d) :=
  item_s ht (pipe_s ht (cmd_s ht hfl h d) (cmd_noE r d) hfl) (pipe_noE (cmd_noE r d)) hfl
theorem lstF_s {r r' : Drd} (ht : Tl tl) (hfl : ∀ ts ts', Sm tl ts ts' → ts.length ≤ ts'.length) (h : DrS tl c r r') (d : Nat) : RdLm tl c (lstF r d) (lstF r' d) :=
  list_s ht (itm_s ht hfl h d) (itm_noE r d) hfl
theorem ifs_s {l l' : Rdr} (ht : Tl tl) (h : RdLm tl c l l') : ∀ (f f' : Nat) (ts ts' : List Tok) (ns ns' : List Nd), f ≤ f' → Sm tl ts ts' → ns'.length = ns.length + c → Rel tl c Any (ifsF l f ts ns) (ifsF l' f' ts' ns') := by
  intro f
  induction f with
  | zero => intro f' ts ts' ns ns' _ _ _; exact Rel.bad _ _ _
  | succ f ih =>
    intro f' ts ts' ns ns' hf hs hn
    obtain ⟨g, rfl⟩ : ∃ g, f' = g + 1 := ⟨f' - 1, by omega⟩
    rw [ifsF, ifsF]
    refine RelL.bind (h _ _ _ _ hs hn) (fun _ _ _ _ _ _ hA hp => needB_aw hA hp) fun a a' t1 t1' n1 n1' _ hs1 hn1 => ?_
    refine Rel.bind (Rel.need ht (by decide) hs1 hn1) fun _ _ t2 t2' n2 n2' _ hs2 hn2 => ?_
    refine RelL.bind (h _ _ _ _ hs2 hn2) ?_ fun b b' t3 t3' n3 n3' _ hs3 hn3 => ?_
    · intro x ts ns y us ms hA hp
      rw [hA.is, hA.is] at hp
      exact needB_aw hA hp
    refine Rel.ite (hs3.is ht (by decide)) (fun h1 => ?_) (fun _ => Rel.ite (hs3.is ht (by decide)) (fun h1 => ?_) (fun _ => ?_))
    · exact Rel.bind (ih _ _ _ _ _ (by omega) (hs3.tail_is h1) hn3) fun x x' t4 t4' n4 n4' _ hs4 hn4 => Rel.lay hs4 hn4
    · refine RelL.bind (h _ _ _ _ (hs3.tail_is h1) hn3) (fun _ _ _ _ _ _ hA hp => needB_aw hA hp) fun x x' t4 t4' n4 n4' _ hs4 hn4 => ?_
      exact Rel.bind (Rel.need ht (by decide) hs4 hn4) fun _ _ t5 t5' n5 n5' _ hs5 hn5 => Rel.lay hs5 hn5
    · exact Rel.bind (Rel.need ht (by decide) hs3 hn3) fun _ _ t5 t5' n5 n5' _ hs5 hn5 => Rel.lay hs5 hn5
theorem words_s (ht : Tl tl) {ts ts' : List Tok} (hs : Sm tl ts ts') : Sm tl (wordsR ts) (wordsR ts') ∧ wordsT ts' = wordsT ts := by
  induction hs with
  | @base e he =>
    obtain ⟨e', r, rfl, h⟩ := ht
    have h1 : ¬ e'.k = 1 := by rcases h with h | ⟨h, _⟩ <;> omega
    have h2 : ¬ e.k = 1 := by omega
    refine ⟨?_, ?_⟩
    · rw [wordsR, wordsR, if_neg h1, if_neg h2]; exact .base he
    · rw [wordsT, wordsT, if_neg h1, if_neg h2]
  | @cons t t' r r' hk hx h ih =>
    rw [wordsR, wordsR, wordsT, wordsT, hk, hx]
    by_cases h1 : t.k = 1
    · rw [if_pos h1, if_pos h1, if_pos h1, if_pos h1, ih.2]
      exact ⟨ih.1, rfl⟩
    · rw [if_neg h1, if_neg h1, if_neg h1, if_neg h1]
      exact ⟨.cons hk hx h, rfl⟩
theorem fors_s (ht : Tl tl) {ts ts' : List Tok} {ns ns' : List Nd} (hs : Sm tl ts ts') (hn : ns'.length = ns.length + c) : Rel tl c Any (forsF ts ns) (forsF ts' ns') := by
  cases hs with
  | @base e he =>
    unfold forsF
    simp only []
    rw [if_neg (by simp [namedB, he])]
    exact Rel.wrong _ _
  | @cons t t' r r' hk hx hr =>
    unfold forsF
    simp only []
    refine Rel.ite (by simp only [namedB, hk, hx]) (fun _ => ?_) (fun _ => Rel.wrong _ _)
    rcases hr.breaks ht with hb | hb
    · refine Rel.ite (hb.is ht (by decide)) (fun h1 => ?_) (fun _ => ?_)
      · obtain ⟨w1, w2⟩ := words_s ht (hb.tail_is h1)
        have e1 := w1.is ht (s := sSemi) (by decide)
        rcases w1.is_lf ht with e2 | hA
        · refine Rel.ite (by rw [e1, e2]) (fun h2 => ?_) (fun _ => Rel.wrong _ _)
          have h3 : Sm tl (wordsR (breaksF r).tail).tail (wordsR (breaksF r').tail).tail := by
            rw [Bool.or_eq_true] at h2
            rcases h2 with h2 | h2 <;> exact w1.tail_is h2
          exact Rel.bind (Rel.need_brk ht (by decide) h3 hn) fun _ _ t2 t2' n2 n2' _ hs2 hn2 => Rel.ok hs2 hn2 trivial
        · rw [hA.is, hA.is]
          exact Rel.wrong _ _
      · exact Rel.bind (Rel.need_brk ht (by decide) (hb.take ht (by decide)) hn) fun _ _ t2 t2' n2 n2' _ hs2 hn2 => Rel.ok hs2 hn2 trivial
    · rw [hb.is]
      simp only [Bool.false_eq_true, if_false]
      have h1 : takeT (breaksF r) sSemi = breaksF r := by unfold takeT; rw [hb.is]; rfl
      intro x us ms hp
      rw [h1, hb.breaks] at hp
      exact (needB_aw hb hp).elim
theorem any_s {ts ts' : List Tok} {ns ns' : List Nd} (hs : Sm tl ts ts') (hn : ns'.length = ns.length + c) : Rel tl c Any (anyR ts ns) (anyR ts' ns') := by
  cases hs with
  | @base e he =>
    unfold anyR
    simp only []
    rw [if_neg (by omega)]
    exact Rel.wrong _ _
  | @cons t t' r r' hk hx hr =>
    unfold anyR
    simp only [hk, hx]
    exact Rel.dite Iff.rfl (fun _ => Rel.ok hr hn trivial) (fun _ => Rel.wrong _ _)
theorem any_aw {ts : List Tok} {ns : List Nd} {y : List UInt8} {us : List Tok} {ms : List Nd} (h : Aw tl ts) (hp : anyR ts ns = .ok y us ms) : False := by
  obtain ⟨_, e, he, rfl⟩ := h
  unfold anyR at hp
  simp only [] at hp
  rw [if_neg (by omega)] at hp
  exact wrong_ok hp
theorem pats_s (ht : Tl tl) : ∀ (f f' : Nat) (acc acc' : List (List UInt8)) (ts ts' : List Tok) (ns ns' : List Nd), f ≤ f' → Sm tl ts ts' → ns'.length = ns.length + c → Rel tl c Any (patsL f acc ts ns) (patsL f' acc' ts' ns') := by
  intro f
  induction f with
  | zero => intro f' acc acc' ts ts' ns ns' _ _ _; exact Rel.bad _ _ _
  | succ f ih =>
    intro f' acc acc' ts ts' ns ns' hf hs hn
    obtain ⟨g, rfl⟩ : ∃ g, f' = g + 1 := ⟨f' - 1, by omega⟩
    rw [patsL, patsL]
    refine Rel.ite (hs.is ht (by decide)) (fun h => ?_) (fun _ => Rel.ok hs hn trivial)
    exact Rel.bind (any_s (hs.tail_is h) hn) fun x x' t1 t1' n1 n1' _ hs1 hn1 => ih _ _ _ _ _ _ _ (by omega) hs1 hn1
theorem wrd_aw {ts : List Tok} (h : Aw tl ts) (s : List UInt8) : wrdB ts s = false ∧ sgnB ts s = false := by
  have := h.is s
  unfold isB at this
  rw [Bool.or_eq_false_iff] at this
  exact ⟨this.2, this.1⟩
theorem case_aw {l : Rdr} {f : Nat} {n : Nd} {ts : List Tok} {ns : List Nd} {y : Nd} {us : List Tok} {ms : List Nd} (h : Aw tl ts) (hp : caseL l f n ts ns = .ok y us ms) : False := by
  cases f with
  | zero => cases hp
  | succ f =>
    rw [caseL, (wrd_aw h _).1, (wrd_aw h _).2] at hp
    simp only [Bool.false_eq_true, if_false] at hp
    obtain ⟨x, t1, n1, h1, _⟩ := bind_eq hp
    exact any_aw h h1
theorem case_loop_s {l l' : Rdr} (ht : Tl tl) (hfl : ∀ ts ts', Sm tl ts ts' → ts.length ≤ ts'.length) (h : RdLm tl c l l') : ∀ (f f' : Nat) (n n' : Nd) (ts ts' : List Tok) (ns ns' : List Nd), f ≤ f' → Sm tl ts ts' → ns'.length = ns.length + c → RelL tl c Any (caseL l f n ts ns) (caseL l' f' n' ts' ns') := by
  intro f
  induction f with
  | zero => intro f' n n' ts ts' ns ns' _ _ _; exact (Rel.bad _ _ _).l
  | succ f ih =>
    intro f' n n' ts ts' ns ns' hf hs hn
    obtain ⟨g, rfl⟩ : ∃ g, f' = g + 1 := ⟨f' - 1, by omega⟩
    rw [caseL, caseL]
    refine RelL.ite (hs.wrd ht (by decide)) (fun _ => (Rel.ok hs hn trivial).l) (fun _ => ?_)
    have hs1 : Sm tl (if sgnB ts sPar = true then ts.tail else ts) (if sgnB ts' sPar = true then ts'.tail else ts') := by
      rw [hs.sgn ht (by decide)]
      split
      · rename_i hp
        exact hs.tail_is (s := sPar) (by unfold isB; rw [hp]; rfl)
      · exact hs
    refine Rel.bindL (any_s hs1 hn) fun s s' t1 t1' n1 n1' _ hs1 hn1 => ?_
    refine Rel.bindL (pats_s ht _ _ _ _ _ _ _ _ (by have := hfl _ _ hs1; omega) hs1 hn1) fun p p' t2 t2' n2 n2' _ hs2 hn2 => ?_
    refine Rel.bindL (Rel.need ht (by decide) hs2 hn2) fun _ _ t3 t3' n3 n3' _ hs3 hn3 => ?_
    refine RelL.bindL (V := Any) ?_ ?_ ?_
    · rcases hs3.breaks ht with hb | hb
      · exact RelL.ite (hb.begins ht) (fun _ => h _ _ _ _ hb hn3) (fun _ => (Rel.ok hb hn3 trivial).l)
      · rw [hb.begins]
        intro z us ms hp
        left
        simp only [Bool.false_eq_true, if_false] at hp
        injection hp with _ h2 _
        rw [← h2]
        exact hb
    · intro x ts ns y us ms hA hp
      simp only [] at hp
      rw [hA.is] at hp
      simp only [Bool.false_eq_true, if_false] at hp
      injection hp with _ h2 _
      rw [← h2]
      exact hA
    · intro x x' t4 t4' n4 n4' _ hs4 hn4
      simp only []
      refine RelL.ite (hs4.is ht (by decide)) (fun h1 => ?_) (fun _ => (Rel.ok hs4 hn4 trivial).l)
      rcases (hs4.tail_is h1).breaks ht with hb | hb
      · exact ih _ _ _ _ _ _ _ (by omega) hb hn4
      · exact fun _ _ _ hp => (case_aw hb hp).elim
theorem caseF_s {l l' : Rdr} (ht : Tl tl) (hfl : ∀ ts ts', Sm tl ts ts' → ts.length ≤ ts'.length) (h : RdLm tl c l l') {ts ts' : List Tok} {ns ns' : List Nd} (hs : Sm tl ts ts') (hn : ns'.length = ns.length + c) : Rel tl c Any (caseF l ts ns) (caseF l' ts' ns') := by
  unfold caseF
  refine Rel.bind (any_s hs hn) fun s s' t1 t1' n1 n1' _ hs1 hn1 => ?_
  refine Rel.bind (Rel.need_brk ht (by decide) hs1 hn1) fun _ _ t2 t2' n2 n2' _ hs2 hn2 => ?_
  refine RelL.bind (V := Any) ?_ (fun _ _ _ _ _ _ hA hp => needB_aw hA hp) fun n n' t3 t3' n3 n3' _ hs3 hn3 => ?_
  · rcases hs2.breaks ht with hb | hb
    · exact case_loop_s ht hfl h _ _ _ _ _ _ _ _ (by have := hfl _ _ hs2; omega) hb hn2
    · exact fun _ _ _ hp => (case_aw hb hp).elim
  · exact Rel.bind (Rel.need ht (by decide) hs3 hn3) fun _ _ t4 t4' n4 n4' _ hs4 hn4 => Rel.ok hs4 hn4 trivial
theorem coreS_s {l l' : Rdr} (ht : Tl tl) (hfl : ∀ ts ts', Sm tl ts ts' → ts.length ≤ ts'.length) (h : RdLm tl c l l') (s : List UInt8) : RdSm tl c (coreS l s) (coreS l' s) := by
  intro ts ts' ns ns' hs hn
  unfold coreS
  have one : ∀ (w : List UInt8) (k : Int), w ≠ sLf → Rel tl c Any ((l ts ns).bind fun x ts ns => (needR w ts ns).bind fun _ ts ns => layR { kind := k, kids := [x] } ts ns) ((l' ts' ns').bind fun x ts ns => (needR w ts ns).bind fun _ ts ns => layR { kind := k, kids := [x] } ts ns) := by
    intro w k hw
    refine RelL.bind (h _ _ _ _ hs hn) (fun _ _ _ _ _ _ hA hp => needB_aw hA hp) fun x x' t1 t1' n1 n1' _ hs1 hn1 => ?_
    exact Rel.bind (Rel.need ht hw hs1 hn1) fun _ _ t2 t2' n2 n2' _ hs2 hn2 => Rel.lay hs2 hn2
  refine Rel.dite Iff.rfl (fun _ => one _ _ (by decide)) (fun _ => Rel.dite Iff.rfl (fun _ => one _ _ (by decide)) (fun _ => Rel.dite Iff.rfl (fun _ => ifs_s ht h _ _ _ _ _ _ (by have := hfl _ _ hs; omega) hs hn) (fun _ => Rel.dite Iff.rfl (fun _ => ?_) (fun _ => Rel.dite Iff.rfl (fun _ => ?_) (fun _ => ?_)))))
  · refine Rel.bind (fors_s ht hs hn) fun n n' t1 t1' n1 n1' _ hs1 hn1 => ?_
    refine RelL.bind (h _ _ _ _ hs1 hn1) (fun _ _ _ _ _ _ hA hp => needB_aw hA hp) fun x x' t2 t2' n2 n2' _ hs2 hn2 => ?_
    exact Rel.bind (Rel.need ht (by decide) hs2 hn2) fun _ _ t3 t3' n3 n3' _ hs3 hn3 => Rel.lay hs3 hn3
  · exact Rel.bind (caseF_s ht hfl h hs hn) fun n n' t1 t1' n1 n1' _ hs1 hn1 => Rel.lay hs1 hn1
  · refine RelL.bind (h _ _ _ _ hs hn) (fun _ _ _ _ _ _ hA hp => needB_aw hA hp) fun x x' t1 t1' n1 n1' _ hs1 hn1 => ?_
    refine Rel.bind (Rel.need ht (by decide) hs1 hn1) fun _ _ t2 t2' n2 n2' _ hs2 hn2 => ?_
    refine RelL.bind (h _ _ _ _ hs2 hn2) (fun _ _ _ _ _ _ hA hp => needB_aw hA hp) fun y y' t3 t3' n3 n3' _ hs3 hn3 => ?_
    exact Rel.bind (Rel.need ht (by decide) hs3 hn3) fun _ _ t4 t4' n4 n4' _ hs4 hn4 => Rel.lay hs4 hn4
theorem core_s (ht : Tl tl) (hfl : ∀ ts ts', Sm tl ts ts' → ts.length ≤ ts'.length) : ∀ (f f' : Nat), f ≤ f' → DrS tl c (core f) (core f') := by
  intro f
  induction f with
  | zero => intro f' _ d ts ts' ns ns' _ _; exact Rel.bad _ _ _
  | succ f ih =>
    intro f' hf d ts ts' ns ns' hs hn
    obtain ⟨g, rfl⟩ : ∃ g, f' = g + 1 := ⟨f' - 1, by omega⟩
    have hl := lstF_s ht hfl (cmp_s ht hfl (ih g (by omega))) d
    show Rel tl c Any (coreF (lstF (cmpF (core f))) d ts ns) (coreF (lstF (cmpF (core g))) d ts' ns')
    cases hs with
    | @base e he =>
      unfold coreF
      simp only []
      rw [if_pos he]
      exact Rel.bad _ _ _
    | @cons t t' r r' hk hx hr =>
      unfold coreF
      simp only [hk, hx]
      exact Rel.dite Iff.rfl (fun _ => Rel.bad _ _ _) (fun _ => coreS_s ht hfl hl _ _ _ _ _ hr hn)
theorem Sm.le {tl ts ts' : List Tok} (ht : Tl tl) (h : Sm tl ts ts') : ts.length ≤ ts'.length := by
  induction h with
  | base he => obtain ⟨e', r, rfl, _⟩ := ht; simp
  | cons _ _ _ ih => simp only [List.length_cons]; omega
theorem itm_core (ht : Tl tl) {f f' : Nat} (hf : f ≤ f') (d : Nat) : RdSm tl c (itm (cmpF (core f)) d) (itm (cmpF (core f')) d) :=
  itm_s ht (fun _ _ h => h.le ht) (cmp_s ht (fun _ _ h => h.le ht) (core_s ht (fun _ _ h => h.le ht) f f' hf)) d
theorem lst_s (ht : Tl tl) {f f' : Nat} (hf : f ≤ f') (d : Nat) : RdLm tl c (lst f d) (lst f' d) :=
  lstF_s ht (fun _ _ h => h.le ht) (cmp_s ht (fun _ _ h => h.le ht) (core_s ht (fun _ _ h => h.le ht) f f' hf)) d
end
end Go.Proofs.Ytgpfjcogaheopaa
