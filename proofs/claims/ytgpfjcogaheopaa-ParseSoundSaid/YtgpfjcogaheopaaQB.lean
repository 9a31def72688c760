/- The plain parser's nodes: each stands right behind its kids; all words of the tokens stand in them. -/
import Derived.Test.YtgpfjcogaheopaaQA
namespace Go.Proofs.Ytgpfjcogaheopaa
open Lx
set_option maxRecDepth 100000

/-! ### where nodes begin -/
theorem getD_l (a b : List Nat) (i : Nat) (h : i < a.length) : (a ++ b).getD i 0 = a.getD i 0 := by
  rw [List.getD_eq_getElem?_getD, List.getD_eq_getElem?_getD, List.getElem?_append_left h]
theorem getD_r (a : List Nat) (b : Nat) : (a ++ [b]).getD a.length 0 = b := by
  rw [List.getD_eq_getElem?_getD, List.getElem?_append_right (Nat.le_refl _), Nat.sub_self]
  rfl
def goK (bs : List Nat) (c : Bool) : List Int → Nat → Option Nat
  | [], f => some f
  | k :: r, f => if k = -1 ∧ c = true then goK bs c r f else if f = 0 ∨ k ≠ (f : Int) - 1 then none else goK bs c r (bs.getD (f - 1) 0)
def NdOk (n : Nd) : Prop :=
  (n.kind = 1 ∧ n.kids = [] ∧ 0 < n.sets.length + n.words.length + n.redirs.length ∧ n.name = []) ∨
  ((n.kind = 2 ∨ n.kind = 7 ∨ n.kind = 8 ∨ n.kind = 9) ∧ n.kids.length = 1 ∧ n.name = []) ∨
  ((n.kind = 13 ∨ n.kind = 15) ∧ n.kids.length = 1 ∧ n.name ≠ []) ∨
  ((n.kind = 4 ∨ n.kind = 5 ∨ n.kind = 11 ∨ n.kind = 12) ∧ n.kids.length = 2 ∧ n.name = []) ∨
  (n.kind = 3 ∧ 2 ≤ n.kids.length ∧ n.name = []) ∨ (n.kind = 6 ∧ 1 ≤ n.kids.length ∧ n.name = []) ∨
  (n.kind = 10 ∧ 2 ≤ n.kids.length ∧ n.kids.length ≤ 3 ∧ n.name = []) ∨ (n.kind = 14 ∧ n.kids.length = n.pats.length ∧ n.name = [])
inductive WB : List Nd → List Nat → Prop
  | nil : WB [] []
  | snoc {ns : List Nd} {bs : List Nat} {n : Nd} {b : Nat} : WB ns bs → NdOk n → goK bs (n.kind == 14) n.kids.reverse bs.length = some b → WB (ns ++ [n]) (bs ++ [b])
theorem WB.len {ns : List Nd} {bs : List Nat} (h : WB ns bs) : bs.length = ns.length := by
  induction h with
  | nil => rfl
  | snoc _ _ _ ih => simp [ih]
theorem goK_le {bs : List Nat} {c : Bool} (hb : ∀ i, i < bs.length → bs.getD i 0 ≤ i) : ∀ (ks : List Int) (f b : Nat), f ≤ bs.length → goK bs c ks f = some b → b ≤ f
  | [], f, b, _, h => by
    injection h with h
    omega
  | k :: r, f, b, hf, h => by
    rw [goK] at h
    split at h
    · exact goK_le hb r f b hf h
    · split at h
      · cases h
      · rename_i h1 h2
        have h3 := hb (f - 1) (by omega)
        have := goK_le hb r _ b (by omega) h
        omega
theorem WB.le {ns : List Nd} {bs : List Nat} (h : WB ns bs) : ∀ i, i < bs.length → bs.getD i 0 ≤ i := by
  induction h with
  | nil => intro i hi; simp at hi
  | @snoc ns bs n b h hk hg ih =>
    intro i hi
    rw [List.length_append, List.length_singleton] at hi
    by_cases hin : i < bs.length
    · rw [getD_l _ _ _ hin]; exact ih i hin
    · obtain rfl : i = bs.length := by omega
      rw [getD_r]
      exact goK_le ih _ _ _ (Nat.le_refl _) hg
theorem goK_app {bs cs : List Nat} {c : Bool} (hb : ∀ i, i < bs.length → bs.getD i 0 ≤ i) : ∀ (ks : List Int) (f : Nat), f ≤ bs.length → goK (bs ++ cs) c ks f = goK bs c ks f
  | [], f, _ => rfl
  | k :: r, f, hf => by
    rw [goK, goK]
    by_cases h1 : k = -1 ∧ c = true
    · rw [if_pos h1, if_pos h1]; exact goK_app hb r f hf
    · rw [if_neg h1, if_neg h1]
      by_cases h2 : f = 0 ∨ k ≠ (f : Int) - 1
      · rw [if_pos h2, if_pos h2]
      · rw [if_neg h2, if_neg h2, getD_l _ _ _ (by omega)]
        exact goK_app hb r _ (by have := hb (f - 1) (by omega); omega)
/-- Kids that stand right behind one another, from b0 on. -/
def Chn (c : Bool) (bs : List Nat) (kids : List Int) (n b0 : Nat) : Prop := goK bs c kids.reverse n = some b0
/-- What a reader adds is one tree. -/
def Wb (ns ns' : List Nd) : Prop := ∀ bs, WB ns bs → ∃ cs, WB ns' (bs ++ cs) ∧ (bs ++ cs).getD (ns'.length - 1) 0 = ns.length
theorem Chn.kid {c : Bool} {bs cs : List Nat} {kids : List Int} {ns ns' : List Nd} {b0 : Nat} (hw : WB ns bs) (hw' : WB ns' (bs ++ cs)) (hl : (bs ++ cs).getD (ns'.length - 1) 0 = ns.length) (hn : 0 < ns'.length) (h : Chn c bs kids ns.length b0) : Chn c (bs ++ cs) (kids ++ [(ns'.length : Int) - 1]) ns'.length b0 := by
  unfold Chn at h ⊢
  rw [List.reverse_append, List.reverse_singleton, List.singleton_append, goK, if_neg (by omega), if_neg (by omega), hl, goK_app hw.le _ _ (by rw [hw.len]; exact Nat.le_refl _)]
  exact h
theorem Chn.skip {bs : List Nat} {kids : List Int} {n b0 : Nat} (h : Chn true bs kids n b0) : Chn true bs (kids ++ [-1]) n b0 := by
  unfold Chn at h ⊢
  rw [List.reverse_append, List.reverse_singleton, List.singleton_append, goK, if_pos ⟨rfl, rfl⟩]
  exact h
theorem Chn.nil (c : Bool) (bs : List Nat) (n : Nat) : Chn c bs [] n n := rfl
theorem WB.lay {ns : List Nd} {bs : List Nat} {n : Nd} {b0 : Nat} {c : Bool} (h : WB ns bs) (hk : NdOk n) (hc : (n.kind == 14) = c) (hch : Chn c bs n.kids ns.length b0) : WB (ns ++ [n]) (bs ++ [b0]) := by
  refine .snoc h hk ?_
  rw [hc, h.len]
  exact hch
theorem lay_last {ns : List Nd} {bs : List Nat} {n : Nd} {b0 : Nat} (h : WB ns bs) : (bs ++ [b0]).getD ((ns ++ [n]).length - 1) 0 = b0 := by
  rw [List.length_append, List.length_singleton, Nat.add_sub_cancel, ← h.len, getD_r]
/-- A node laid over a chain of kids. -/
theorem lay_wb {c : Bool} {ns ns' : List Nd} {n : Nd} (hk : NdOk n) (hc : (n.kind == 14) = c) (h : ∀ bs, WB ns bs → ∃ cs, WB ns' (bs ++ cs) ∧ Chn c (bs ++ cs) n.kids ns'.length ns.length) : Wb ns (ns' ++ [n]) := by
  intro bs hb
  obtain ⟨cs, h1, h2⟩ := h bs hb
  refine ⟨cs ++ [ns.length], ?_, ?_⟩
  · rw [← List.append_assoc]; exact h1.lay hk hc h2
  · rw [← List.append_assoc]; exact lay_last h1

/-! ### the words -/
def plainN (l : List (List UInt8)) : Nat := (l.filter (fun s => !resB s)).length
theorem plainN_app (a b : List (List UInt8)) : plainN (a ++ b) = plainN a + plainN b := by simp [plainN]
def wt (n : Nd) : Nat := n.sets.length + plainN (if n.name = [] then [] else [n.name]) + plainN n.words + (n.pats.map plainN).sum + plainN (n.redirs.map Rd.wd)
def wtN (ns : List Nd) : Nat := (ns.map wt).sum
theorem wtN_app (a b : List Nd) : wtN (a ++ b) = wtN a + wtN b := by simp [wtN]
theorem wtN_one (n : Nd) : wtN [n] = wt n := by simp [wtN]
def cnt (ts : List Tok) : Nat := (ts.filter (fun t => t.k == 1 && !resB t.t)).length
def digW (s : List UInt8) : Bool := match s with | [c] => decide (48 ≤ c.toNat ∧ c.toNat ≤ 57) | _ => false
def df (n : Nd) : Prop := ∀ r ∈ n.redirs, digW r.wd = false
def DF (ns : List Nd) : Prop := ∀ n ∈ ns, df n
/-- Words are not empty, and no signs. -/
def TW (ts : List Tok) : Prop := ∀ t ∈ ts, (t.k = 1 → t.t ≠ [] ∧ t.t ∉ sgs) ∧ (t.k = 3 → digW t.t = true)
theorem TW.tail {ts : List Tok} (h : TW ts) : TW ts.tail := fun t ht => h t (List.mem_of_mem_tail ht)
theorem cnt_cons (t : Tok) (r : List Tok) : cnt (t :: r) = (if (t.k == 1 && !resB t.t) = true then 1 else 0) + cnt r := by
  unfold cnt
  rw [List.filter_cons]
  split
  · simp; omega
  · simp
theorem cnt_no {t : Tok} {r : List Tok} (h : (t.k == 1 && !resB t.t) = false) : cnt (t :: r) = cnt r := by rw [cnt_cons, h]; simp
theorem cnt_word {t : Tok} {r : List Tok} (h : t.k = 1) : cnt (t :: r) = plainN [t.t] + cnt r := by
  rw [cnt_cons, h]
  unfold plainN
  rw [List.filter_cons]
  cases resB t.t <;> simp
structure Sg (ts : List Tok) (ns : List Nd) (ts' : List Tok) (ns' : List Nd) : Prop where
  sub : ∀ t ∈ ts', t ∈ ts
  pre : ∃ s, ns' = ns ++ s
  wts : DF ns' → wtN ns' + cnt ts' = wtN ns + cnt ts
theorem Sg.refl (ts : List Tok) (ns : List Nd) : Sg ts ns ts ns := ⟨fun _ h => h, ⟨[], by simp⟩, fun _ => rfl⟩
theorem Sg.df {ts : List Tok} {ns : List Nd} {ts' : List Tok} {ns' : List Nd} (h : Sg ts ns ts' ns') (hd : DF ns') : DF ns := by
  obtain ⟨s, rfl⟩ := h.pre
  exact fun n hn => hd n (List.mem_append_left _ hn)
theorem Sg.trans {a b c : List Tok} {x y z : List Nd} (h : Sg a x b y) (g : Sg b y c z) : Sg a x c z := by
  refine ⟨fun t ht => h.sub t (g.sub t ht), ?_, fun hd => ?_⟩
  · obtain ⟨s, rfl⟩ := h.pre
    obtain ⟨s', rfl⟩ := g.pre
    exact ⟨s ++ s', by simp⟩
  · have h1 := g.wts hd
    have h2 := h.wts (g.df hd)
    omega
theorem TW.sub {ts ts' : List Tok} (h : TW ts) (hs : ∀ t ∈ ts', t ∈ ts) : TW ts' := fun t ht => h t (hs t ht)
theorem is_cnt {ts : List Tok} {s : List UInt8} (hw : TW ts) (hs : resB s = true ∨ s ∈ sgs) (h : isB ts s = true) : cnt ts.tail = cnt ts := by
  cases ts with
  | nil => rfl
  | cons t r =>
    have hk := is_k h
    refine (cnt_no ?_).symm
    by_cases h1 : t.k = 1
    · rcases hs with hs | hs
      · rw [hk.2, hs]; simp
      · exact absurd (hk.2 ▸ hs) ((hw t (List.mem_cons_self ..)).1 h1).2
    · rw [show (t.k == 1) = false from beq_eq_false_iff_ne.2 h1]; rfl
theorem Sg.is {ts : List Tok} {ns : List Nd} {s : List UInt8} (hw : TW ts) (hs : resB s = true ∨ s ∈ sgs) (h : isB ts s = true) : Sg ts ns ts.tail ns := ⟨fun t ht => List.mem_of_mem_tail ht, ⟨[], by simp⟩, fun _ => by rw [is_cnt hw hs h]⟩
theorem Sg.take {ts : List Tok} {ns : List Nd} {s : List UInt8} (hw : TW ts) (hs : resB s = true ∨ s ∈ sgs) : Sg ts ns (takeT ts s) ns := by
  unfold takeT
  split
  · exact Sg.is hw hs (by assumption)
  · exact Sg.refl _ _
theorem Sg.breaks {ns : List Nd} : ∀ (ts : List Tok), Sg ts ns (breaksF ts) ns
  | [] => Sg.refl _ _
  | t :: r => by
    unfold breaksF
    split
    · rename_i h
      rw [Bool.and_eq_true] at h
      have h1 := Sg.breaks (ns := ns) r
      have hk : t.k = 2 := eq_of_beq h.1
      refine ⟨fun x hx => List.mem_cons_of_mem _ (h1.sub x hx), h1.pre, fun hd => ?_⟩
      rw [h1.wts hd, cnt_no (by rw [hk]; rfl)]
    · exact Sg.refl _ _
theorem Sg.need {ts : List Tok} {ns : List Nd} {s : List UInt8} {u : Unit} {ts' : List Tok} {ns' : List Nd} (hw : TW ts) (hs : resB s = true ∨ s ∈ sgs) (h : needR s ts ns = .ok u ts' ns') : Sg ts ns ts' ns' ∧ ns' = ns := by
  unfold needR at h
  split at h
  · injection h with _ h1 h2
    subst h1 h2
    exact ⟨Sg.is hw hs (by assumption), rfl⟩
  · exact (wrong_ok h).elim
/-- A node without words is laid. -/
theorem Sg.lay {ts : List Tok} {ns : List Nd} (n : Nd) (h0 : wt n = 0) : Sg ts ns ts (ns ++ [n]) := ⟨fun _ h => h, ⟨[n], rfl⟩, fun _ => by rw [wtN_app, wtN_one, h0]; omega⟩
theorem wt_kids (k : Int) (l : List Int) : wt { kind := k, kids := l } = 0 := by simp [wt, plainN]
theorem Sg.wb_tok {a b : List Tok} {ns ns' : List Nd} (_ : Sg a ns b ns) (h : Wb ns ns') : Wb ns ns' := h

/-! ### readers -/
def Fine (f : Rdr) : Prop := ∀ ts ns x ts' ns', Good ts → TW ts → f ts ns = .ok x ts' ns' → Sg ts ns ts' ns' ∧ Wb ns ns'
theorem kids_fine {c : Nat} {ts ts1 : List Tok} {ns ns1 : List Nd} {cc : Bool} {kids : List Int} {bs : List Nat} {b0 : Nat} {x : Int} (hb : WB ns bs) (hw : Wb ns ns1) (hl : Left c ts ns x ts1 ns1) (hc : Chn cc bs kids ns.length b0) : ∃ cs, WB ns1 (bs ++ cs) ∧ Chn cc (bs ++ cs) (kids ++ [x]) ns1.length b0 := by
  obtain ⟨cs, h1, h2⟩ := hw bs hb
  have h3 := hl.more
  rw [hl.last]
  exact ⟨cs, h1, Chn.kid hb h1 h2 (by omega) hc⟩
theorem list_loop_fine {item : Rdr} (hd : Dec 3 item) (hi : Fine item) : ∀ (f : Nat) (kids : List Int) (back : Bool) (ts : List Tok) (ns : List Nd) (k : List Int × Bool) (ts' : List Tok) (ns' : List Nd), Good ts → TW ts → listL item f kids back ts ns = .ok k ts' ns' →
    Sg ts ns ts' ns' ∧ (∀ bs b0, WB ns bs → Chn false bs kids ns.length b0 → ∃ cs, WB ns' (bs ++ cs) ∧ Chn false (bs ++ cs) k.1 ns'.length b0) := by
  intro f
  induction f with
  | zero => intro kids back ts ns k ts' ns' _ _ h; cases h
  | succ f ih =>
    intro kids back ts ns k ts' ns' hg hw h
    rw [listL] at h
    obtain ⟨x, t1, n1, he, h⟩ := bind_eq h
    obtain ⟨s1, w1⟩ := hi _ _ _ _ _ hg hw he
    have hl := hd _ _ _ _ _ hg he
    have hw1 : TW t1 := hw.sub s1.sub
    simp only [] at h
    by_cases ha : isB t1 sAmp = true
    · have ht : takeT t1 sAmp = t1.tail := if_pos ha
      have ht2 := is_tail hl.good ha
      have hb := breaks_good ht2.1
      simp only [ha, ht, Bool.true_or, if_true] at h
      have s2 : Sg ts ns (breaksF t1.tail) (n1 ++ [{ kind := 7, kids := [x] }]) := ((s1.trans (Sg.is hw1 (.inr (by decide)) ha)).trans (Sg.breaks _)).trans (Sg.lay _ (wt_kids _ _))
      have w2 : Wb ns (n1 ++ [{ kind := 7, kids := [x] }]) := lay_wb (c := false) (.inr (.inl ⟨.inr (.inl rfl), rfl, rfl⟩)) rfl fun bs hb => kids_fine hb w1 hl (Chn.nil _ _ _)
      have chain : ∀ bs b0, WB ns bs → Chn false bs kids ns.length b0 → ∃ cs, WB (n1 ++ [{ kind := 7, kids := [x] }]) (bs ++ cs) ∧ Chn false (bs ++ cs) (kids ++ [(n1.length : Int)]) (n1 ++ [({ kind := 7, kids := [x] } : Nd)]).length b0 := fun bs b0 hb hc => by
        obtain ⟨cs, c1, c2⟩ := w2 bs hb
        have := Chn.kid hb c1 c2 (by simp) hc
        rw [show (((n1 ++ [({ kind := 7, kids := [x] } : Nd)]).length : Nat) : Int) - 1 = n1.length by simp] at this
        exact ⟨cs, c1, this⟩
      by_cases hbg : beginsB (breaksF t1.tail) = true
      · rw [if_pos hbg] at h
        obtain ⟨q1, q2⟩ := ih _ _ _ _ _ _ _ hb.1 (hw.sub s2.sub) h
        refine ⟨s2.trans q1, fun bs b0 hb hc => ?_⟩
        obtain ⟨cs, c1, c2⟩ := chain bs b0 hb hc
        obtain ⟨cs2, c3, c4⟩ := q2 _ _ c1 c2
        exact ⟨cs ++ cs2, by rw [← List.append_assoc]; exact c3, by rw [← List.append_assoc]; exact c4⟩
      · rw [if_neg hbg] at h
        injection h with h1 h2 h3
        subst h1 h2 h3
        exact ⟨s2, chain⟩
    · have ha : isB t1 sAmp = false := by simpa using ha
      have ht : takeT t1 sAmp = t1 := by unfold takeT; rw [ha]; rfl
      simp only [ha, ht, Bool.false_or] at h
      have chain : ∀ bs b0, WB ns bs → Chn false bs kids ns.length b0 → ∃ cs, WB n1 (bs ++ cs) ∧ Chn false (bs ++ cs) (kids ++ [x]) n1.length b0 := fun bs b0 hb hc => kids_fine hb w1 hl hc
      by_cases hs : (isB t1 sSemi || isB t1 sLf) = true
      · simp only [hs, if_true] at h
        have hsT : Good t1.tail ∧ Sg t1 n1 t1.tail n1 := by
          rw [Bool.or_eq_true] at hs
          rcases hs with hs | hs
          · exact ⟨(is_tail hl.good hs).1, Sg.is hw1 (.inr (by decide)) hs⟩
          · exact ⟨(is_tail hl.good hs).1, Sg.is hw1 (.inr (by decide)) hs⟩
        have hb := breaks_good hsT.1
        simp only [Bool.false_eq_true, if_false] at h
        have s2 := (s1.trans hsT.2).trans (Sg.breaks (ns := n1) _)
        by_cases hbg : beginsB (breaksF t1.tail) = true
        · rw [if_pos hbg] at h
          obtain ⟨q1, q2⟩ := ih _ _ _ _ _ _ _ hb.1 (hw.sub s2.sub) h
          refine ⟨s2.trans q1, fun bs b0 hb hc => ?_⟩
          obtain ⟨cs, c1, c2⟩ := chain bs b0 hb hc
          obtain ⟨cs2, c3, c4⟩ := q2 _ _ c1 c2
          exact ⟨cs ++ cs2, by rw [← List.append_assoc]; exact c3, by rw [← List.append_assoc]; exact c4⟩
        · rw [if_neg hbg] at h
          injection h with h1 h2 h3
          subst h1 h2 h3
          exact ⟨s2, chain⟩
      · have hs : (isB t1 sSemi || isB t1 sLf) = false := by simpa using hs
        simp only [hs, Bool.false_eq_true, if_false] at h
        injection h with h1 h2 h3
        subst h1 h2 h3
        exact ⟨s1, chain⟩
theorem one_chain {bs cs : List Nat} {x : Int} {n b0 : Nat} (h : Chn false (bs ++ cs) [x] n b0) : (bs ++ cs).getD (n - 1) 0 = b0 := by
  unfold Chn at h
  rw [List.reverse_singleton, goK, if_neg (by simp)] at h
  split at h
  · cases h
  · injection h with h
theorem list_fine {item : Rdr} (hd : Dec 3 item) (hi : Fine item) : Fine (listF item) := by
  intro ts ns x ts' ns' hg hw h
  unfold listF at h
  obtain ⟨k, t1, n1, he, h⟩ := bind_eq h
  have hb := breaks_good hg
  have s0 := Sg.breaks (ns := ns) ts
  have ll := list_loop hd _ _ _ _ _ _ _ _ hb.1 he
  obtain ⟨s1, w1⟩ := list_loop_fine hd hi _ _ _ _ _ _ _ _ hb.1 (hw.sub s0.sub) he
  have s2 := (s0.trans s1).trans (Sg.breaks (ns := n1) t1)
  have lay : Sg ts ns (breaksF t1) (n1 ++ [{ kind := 6, kids := k.1 }]) ∧ Wb ns (n1 ++ [{ kind := 6, kids := k.1 }]) :=
    ⟨s2.trans (Sg.lay _ (wt_kids _ _)), lay_wb (c := false) (.inr (.inr (.inr (.inr (.inr (.inl ⟨rfl, by have := ll.2.2.2.2.2.1; show 1 ≤ k.1.length; simp only [List.length_nil] at this; omega, rfl⟩)))))) rfl fun bs hb => w1 bs _ hb (Chn.nil _ _ _)⟩
  split at h
  · rename_i x0 hk0
    rw [hk0] at lay
    split at h
    · obtain ⟨rfl, rfl, rfl⟩ := lay_ok h
      exact lay
    · injection h with h1 h2 h3
      subst h1 h2 h3
      refine ⟨s2, fun bs hb => ?_⟩
      obtain ⟨cs, c1, c2⟩ := w1 bs _ hb (Chn.nil _ _ _)
      rw [hk0] at c2
      exact ⟨cs, c1, one_chain c2⟩
  · obtain ⟨rfl, rfl, rfl⟩ := lay_ok h
    exact lay
theorem item_loop_fine {pipe : Rdr} (hd : Dec 3 pipe) (hi : Fine pipe) : ∀ (f : Nat) (x : Int) (ts : List Tok) (ns : List Nd) (y : Int) (ts' : List Tok) (ns' : List Nd), Good ts → TW ts → itemL pipe f x ts ns = .ok y ts' ns' →
    Sg ts ns ts' ns' ∧ (∀ bs b0, WB ns bs → Chn false bs [x] ns.length b0 → ∃ cs, WB ns' (bs ++ cs) ∧ Chn false (bs ++ cs) [y] ns'.length b0) := by
  intro f
  induction f with
  | zero => intro x ts ns y ts' ns' _ _ h; cases h
  | succ f ih =>
    intro x ts ns y ts' ns' hg hw h
    rw [itemL] at h
    have step : ∀ (s : List UInt8) (kd : Int), s ∈ sgs → (kd = 4 ∨ kd = 5) → isB ts s = true → ((pipe (breaksF ts.tail) ns).bind fun y ts ns => itemL pipe f ns.length ts (ns ++ [{ kind := kd, kids := [x, y] }])) = .ok y ts' ns' → Sg ts ns ts' ns' ∧ (∀ bs b0, WB ns bs → Chn false bs [x] ns.length b0 → ∃ cs, WB ns' (bs ++ cs) ∧ Chn false (bs ++ cs) [y] ns'.length b0) := by
      intro s kd hs hkd ha h
      have ht2 := is_tail hg ha
      have hb := breaks_good ht2.1
      have s0 := (Sg.is (ns := ns) hw (.inr hs) ha).trans (Sg.breaks _)
      obtain ⟨z, t1, n1, he, h⟩ := bind_eq h
      obtain ⟨s1, w1⟩ := hi _ _ _ _ _ hb.1 (hw.sub s0.sub) he
      have hl := hd _ _ _ _ _ hb.1 he
      have s2 := (s0.trans s1).trans (Sg.lay { kind := kd, kids := [x, z] } (wt_kids _ _))
      obtain ⟨q1, q2⟩ := ih _ _ _ _ _ _ hl.good (hw.sub s2.sub) h
      refine ⟨s2.trans q1, fun bs b0 hb hc => ?_⟩
      obtain ⟨cs, c1, c2⟩ := kids_fine hb w1 hl hc
      have hok : NdOk { kind := kd, kids := [x, z] } := .inr (.inr (.inr (.inl ⟨by rcases hkd with e | e; exact .inl e; exact .inr (.inl e), rfl, rfl⟩)))
      have hk14 : (({ kind := kd, kids := [x, z] } : Nd).kind == 14) = false := by rcases hkd with e | e <;> (subst e; rfl)
      have c3 := WB.lay c1 hok hk14 c2
      have c4 : Chn false ((bs ++ cs) ++ [b0]) [(n1.length : Int)] (n1 ++ [({ kind := kd, kids := [x, z] } : Nd)]).length b0 := by
        have := Chn.kid (cs := [b0]) (kids := []) (c := false) (b0 := b0) c1 c3
        unfold Chn
        rw [List.reverse_singleton, goK, if_neg (by simp), if_neg (by simp), lay_last c1]
        rfl
      obtain ⟨cs2, c5, c6⟩ := q2 _ _ c3 c4
      exact ⟨cs ++ ([b0] ++ cs2), by rw [← List.append_assoc, ← List.append_assoc]; exact c5, by rw [← List.append_assoc, ← List.append_assoc]; exact c6⟩
    split at h
    · rename_i ha
      exact step sAnd 4 (by decide) (.inl rfl) ha h
    · split at h
      · rename_i ha
        exact step sOr 5 (by decide) (.inr rfl) ha h
      · injection h with h1 h2 h3
        subst h1 h2 h3
        exact ⟨Sg.refl _ _, fun bs b0 hb hc => ⟨[], by simpa using hb, by simpa using hc⟩⟩
theorem item_fine {pipe : Rdr} (hd : Dec 3 pipe) (hi : Fine pipe) : Fine (itemF pipe) := by
  intro ts ns x ts' ns' hg hw h
  unfold itemF at h
  obtain ⟨k, t1, n1, he, h⟩ := bind_eq h
  obtain ⟨s1, w1⟩ := hi _ _ _ _ _ hg hw he
  have hl := hd _ _ _ _ _ hg he
  obtain ⟨s2, w2⟩ := item_loop_fine hd hi _ _ _ _ _ _ _ hl.good (hw.sub s1.sub) h
  refine ⟨s1.trans s2, fun bs hb => ?_⟩
  obtain ⟨cs, c1, c2⟩ := kids_fine hb w1 hl (Chn.nil false bs ns.length)
  obtain ⟨cs2, c3, c4⟩ := w2 _ _ c1 c2
  exact ⟨cs ++ cs2, by rw [← List.append_assoc]; exact c3, by rw [← List.append_assoc]; exact one_chain c4⟩
theorem pipe_loop_fine {cmd : Rdr} (hd : Dec 5 cmd) (hi : Fine cmd) : ∀ (f : Nat) (kids : List Int) (ts : List Tok) (ns : List Nd) (k : List Int) (ts' : List Tok) (ns' : List Nd), Good ts → TW ts → pipeL cmd f kids ts ns = .ok k ts' ns' →
    Sg ts ns ts' ns' ∧ (∀ bs b0, WB ns bs → Chn false bs kids ns.length b0 → ∃ cs, WB ns' (bs ++ cs) ∧ Chn false (bs ++ cs) k ns'.length b0) := by
  intro f
  induction f with
  | zero => intro kids ts ns k ts' ns' _ _ h; cases h
  | succ f ih =>
    intro kids ts ns k ts' ns' hg hw h
    rw [pipeL] at h
    split at h
    · rename_i ha
      have ht2 := is_tail hg ha
      have hb := breaks_good ht2.1
      have s0 := (Sg.is (ns := ns) hw (.inr (by decide)) ha).trans (Sg.breaks _)
      obtain ⟨z, t1, n1, he, h⟩ := bind_eq h
      obtain ⟨s1, w1⟩ := hi _ _ _ _ _ hb.1 (hw.sub s0.sub) he
      have hl := hd _ _ _ _ _ hb.1 he
      have s2 := s0.trans s1
      obtain ⟨q1, q2⟩ := ih _ _ _ _ _ _ hl.good (hw.sub s2.sub) h
      refine ⟨s2.trans q1, fun bs b0 hb hc => ?_⟩
      obtain ⟨cs, c1, c2⟩ := kids_fine hb w1 hl hc
      obtain ⟨cs2, c3, c4⟩ := q2 _ _ c1 c2
      exact ⟨cs ++ cs2, by rw [← List.append_assoc]; exact c3, by rw [← List.append_assoc]; exact c4⟩
    · injection h with h1 h2 h3
      subst h1 h2 h3
      exact ⟨Sg.refl _ _, fun bs b0 hb hc => ⟨[], by simpa using hb, by simpa using hc⟩⟩
theorem not_fine {b : Bool} {x y : Int} {ts ts' : List Tok} {ns ns0 ns' : List Nd} (hc : ∀ bs, WB ns0 bs → ∃ cs, WB ns (bs ++ cs) ∧ Chn false (bs ++ cs) [x] ns.length ns0.length) (h : notR b x ts ns = .ok y ts' ns') : Sg ts ns ts' ns' ∧ Wb ns0 ns' := by
  unfold notR at h
  split at h
  · obtain ⟨rfl, rfl, rfl⟩ := lay_ok h
    exact ⟨Sg.lay _ (wt_kids _ _), lay_wb (c := false) (.inr (.inl ⟨.inl rfl, rfl, rfl⟩)) rfl hc⟩
  · injection h with h1 h2 h3
    subst h1 h2 h3
    refine ⟨Sg.refl _ _, fun bs hb => ?_⟩
    obtain ⟨cs, c1, c2⟩ := hc bs hb
    exact ⟨cs, c1, one_chain c2⟩
theorem pipe_fine {cmd : Rdr} (hd : Dec 5 cmd) (hi : Fine cmd) : Fine (pipeF cmd) := by
  intro ts ns x ts' ns' hg hw h
  unfold pipeF at h
  obtain ⟨y, t1, n1, he, h⟩ := bind_eq h
  have hb := take_good (s := wBang) hg
  have s0 := Sg.take (ns := ns) (s := wBang) hw (.inl (by decide))
  obtain ⟨s1, w1⟩ := hi _ _ _ _ _ hb.1 (hw.sub s0.sub) he
  have hl := hd _ _ _ _ _ hb.1 he
  obtain ⟨k, t2, n2, he2, h⟩ := bind_eq h
  have s01 := s0.trans s1
  obtain ⟨s2, w2⟩ := pipe_loop_fine hd hi _ _ _ _ _ _ _ hl.good (hw.sub s01.sub) he2
  have pl := pipe_loop hd _ _ _ _ _ _ _ hl.good (by simp; exact hl.last) he2
  have ch : ∀ bs, WB ns bs → ∃ cs, WB n2 (bs ++ cs) ∧ Chn false (bs ++ cs) k n2.length ns.length := fun bs hb => by
    obtain ⟨cs, c1, c2⟩ := kids_fine hb w1 hl (Chn.nil false bs ns.length)
    obtain ⟨cs2, c3, c4⟩ := w2 _ _ c1 c2
    exact ⟨cs ++ cs2, by rw [← List.append_assoc]; exact c3, by rw [← List.append_assoc]; exact c4⟩
  split at h
  · rename_i h1
    have wl : Wb ns (n2 ++ [{ kind := 3, kids := k }]) := lay_wb (c := false) (.inr (.inr (.inr (.inr (.inl ⟨rfl, by show 2 ≤ k.length; omega, rfl⟩))))) rfl ch
    obtain ⟨q1, q2⟩ := not_fine (fun bs hb => by
      obtain ⟨cs, c1, c2⟩ := wl bs hb
      refine ⟨cs, c1, ?_⟩
      unfold Chn
      rw [List.reverse_singleton, goK, if_neg (by simp), if_neg (by simp), c2]
      rfl) h
    exact ⟨((s01.trans s2).trans (Sg.lay _ (wt_kids _ _))).trans q1, q2⟩
  · rename_i h1
    have hk1 : k.length = 1 := by have := pl.2.2.2.2.1; simp only [List.length_singleton] at this; omega
    obtain ⟨z, rfl⟩ := List.length_eq_one_iff.1 hk1
    obtain ⟨q1, q2⟩ := not_fine ch h
    exact ⟨(s01.trans s2).trans q1, q2⟩

end Go.Proofs.Ytgpfjcogaheopaa
