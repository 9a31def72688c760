/- The walk of the third law. -/
import Derived.Test.YtolmpejaakpikaaR2
import Derived.Test.YtolmpejaakpikaaTree
import Derived.Deep.DeepCutAuto
set_option linter.all false
namespace Go.Proofs.Ytolmpejaakpikaa
open Go.RowKit Go.Maps
set_option maxRecDepth 100000

theorem and_bound (x : Int) (m : Nat) (hm : m < 9223372036854775808) : ∃ a : Nat, a ≤ m ∧ bits .and .i64 x (m : Int) = (a : Int) := by
  have h : (BitVec.ofInt 64 x &&& BitVec.ofInt 64 (m : Int)).toNat ≤ m := by
    rw [BitVec.toNat_and]
    refine Nat.le_trans Nat.and_le_right ?_
    rw [BitVec.ofInt_natCast, BitVec.toNat_ofNat]
    exact Nat.mod_le _ _
  refine ⟨(BitVec.ofInt 64 x &&& BitVec.ofInt 64 (m : Int)).toNat, h, ?_⟩
  show IntKind.i64.wrap ((BitVec.ofInt 64 x &&& BitVec.ofInt 64 (m : Int)).toNat : Int) = _
  rw [IntKind.wrap_i64]
  omega
theorem idB_of {n : Int} (h : 0 ≤ n ∧ n ≤ 65535) : idB n = true := by
  simp [idB, badB]; omega

/-! ### the events -/
def E1 : Ev := evZ 1 zero 18 0 0 0 2 0 0
def E2 : Ev := evZ 2 zero 26 1 0 0 0 0 0
def E3 (u : Int) : Ev := evZ 2 zero 23 0 u 3 0 0 0
def E4 (c : Cr) : Ev := evZ 2 c 3 0 0 0 0 0 0
def EX (c : Cr) (m o : Int) : Ev := evZ 2 c 19 0 0 0 0 m o
def EB (c : Cr) : Ev := evZ 2 c 23 0 0 0 0 0 0
def us (u : Int) : Cr := ⟨u, u, u, 3, 3⟩
def nw (u x : Int) : Cr := ⟨u, x, x, 3, 3⟩
def pl (u : Int) : List Ev := [E1, E2, E3 u, E4 (us u)]
def two_ (p : Pc) : RS := ⟨[⟨1, ⟨zero, 1, false, false⟩⟩, ⟨2, p⟩], 2⟩
theorem idx_two (p : Pc) : idx (two_ p).L 2 = some 1 := by unfold two_; rw [idx_cons, idx_cons]; rfl
theorem step_put {p q : Pc} {e : Ev} (he : e.pid = 2) (h : dec p 2 e = .put q) : stepR (two_ p) e = (two_ q, true) := by
  unfold stepR
  rw [he, idx_two]
  show (match dec p 2 e with | .no => _ | .keep => _ | .fork q => _ | .drop => _ | .put q => _) = _
  rw [h]
  rfl
theorem step_no {p : Pc} {e : Ev} (he : e.pid = 2) (h : dec p 2 e = .no) : (stepR (two_ p) e).2 = false := by
  unfold stepR
  rw [he, idx_two]
  show (match dec p 2 e with | .no => _ | .keep => _ | .fork q => _ | .drop => _ | .put q => _ : RS × Bool).2 = _
  rw [h]
theorem s1 : stepR r0 E1 = (two_ ⟨zero, 2, false, false⟩, true) := by
  unfold stepR
  rw [show E1.pid = 1 from rfl, idx_r0]
  simp [r0, dec, E1, evZ, sameC, zero, forkWhy, two_]
theorem s2 : stepR (two_ ⟨zero, 2, false, false⟩) E2 = (two_ ⟨zero, 2, true, false⟩, true) :=
  step_put rfl (by simp [dec, E2, evZ, sameC, zero])
theorem ofF_us {u : Int} (h : 0 ≤ u ∧ u ≤ 65535) : ofF u 3 = (us u, 0) := by
  have h1 := idB_of h
  have h3 : idB 3 = true := idB_of (by omega)
  simp [ofF, Cr.ok, h1, h3, us]
theorem s3 {u : Int} (h : 1 ≤ u ∧ u ≤ 4096) : stepR (two_ ⟨zero, 2, true, false⟩) (E3 u) = (two_ ⟨us u, 0, true, false⟩, true) := by
  refine step_put rfl ?_
  have h1 := ofF_us (u := u) (by omega)
  have hne : (u == 0) = false := by simp; omega
  simp [dec, E3, evZ, sameC, zero, badBecome, becomePc, h1, us, hne]
theorem s4 {u : Int} (h : 1 ≤ u ∧ u ≤ 4096) : stepR (two_ ⟨us u, 0, true, false⟩) (E4 (us u)) = (two_ ⟨us u, 0, true, false⟩, true) := by
  refine step_put rfl ?_
  have hne : ¬ u = 0 := by omega
  simp [dec, E4, evZ, sameC, us, hne]
theorem sfake {u : Int} (h : 1 ≤ u ∧ u ≤ 4096) : (stepR (two_ ⟨us u, 0, true, false⟩) (E4 zero)).2 = false := by
  refine step_no rfl ?_
  have hne : ¬ u = 0 := by omega
  simp [dec, E4, evZ, sameC, us, zero, hne]
def nwWhy (x : Int) : Int := if x ≠ 0 then 0 else 3
theorem sexec {u m o x : Int} (h : 1 ≤ u ∧ u ≤ 4096) (ho : 0 ≤ o ∧ o ≤ 4095) (hx : (mb m != 0) = true ∧ x = o ∨ (mb m != 0) = false ∧ x = u) : stepR (two_ ⟨us u, 0, true, false⟩) (EX (us u) m o) = (two_ ⟨nw u x, nwWhy x, false, false⟩, true) := by
  refine step_put rfl ?_
  have hne : ¬ u = 0 := by omega
  have h1 : idB u = true := idB_of (by omega)
  have h2 : idB o = true := idB_of (by omega)
  have h3 : idB 3 = true := idB_of (by omega)
  have hE : execF (us u) m o = (nw u x, 0) := by
    unfold execF
    rw [show okTwo (us u) o = true by simp [okTwo, Cr.ok, us, h1, h2, h3], if_pos rfl]
    rcases hx with ⟨hm, rfl⟩ | ⟨hm, rfl⟩
    · rw [if_pos hm]; rfl
    · rw [if_neg (by simpa using hm)]; rfl
  have hi2 : (EX (us u) m o).i 2 = m := rfl
  have hi3 : (EX (us u) m o).i 3 = o := rfl
  unfold dec execPc
  simp only [hi2, hi3, hE]
  simp [EX, evZ, sameC, us, nw, nwWhy, hne]
theorem sgood {u x : Int} : stepR (two_ ⟨nw u x, nwWhy x, false, false⟩) (E4 (nw u x)) = (two_ ⟨nw u x, nwWhy x, false, false⟩, true) := by
  refine step_put rfl ?_
  by_cases hx : x = 0
  · simp [dec, E4, evZ, sameC, nw, nwWhy, hx]
  · simp [dec, E4, evZ, sameC, nw, nwWhy, hx]
theorem sbecome {u x : Int} : (stepR (two_ ⟨nw u x, nwWhy x, false, false⟩) (EB (nw u x))).2 = false := by
  refine step_no rfl ?_
  have h0 : idB 0 = true := idB_of (by omega)
  by_cases hx : x = 0
  · simp [dec, EB, evZ, sameC, nw, nwWhy, hx, badBecome]
  · simp [dec, EB, evZ, sameC, nw, nwWhy, hx, badBecome]
theorem res_pl {u : Int} (h : 1 ≤ u ∧ u ≤ 4096) (more : List Ev) : res (pl u ++ more) r0 0 = res more (two_ ⟨us u, 0, true, false⟩) 4 := by
  unfold pl
  simp only [List.cons_append, List.nil_append, res, s1, s2, s3 h, s4 h, if_true]
  rfl
theorem res_l {u : Int} (h : 1 ≤ u ∧ u ≤ 4096) : res (pl u) r0 0 = -1 := by
  have := res_pl h []
  rw [List.append_nil] at this
  exact this
theorem res_fake {u : Int} (h : 1 ≤ u ∧ u ≤ 4096) : res (pl u ++ [E4 zero]) r0 0 = 4 := by
  rw [res_pl h]
  unfold res
  rw [sfake h]
  rfl
theorem res_good {u m o x : Int} (h : 1 ≤ u ∧ u ≤ 4096) (ho : 0 ≤ o ∧ o ≤ 4095) (hx : (mb m != 0) = true ∧ x = o ∨ (mb m != 0) = false ∧ x = u) : res (pl u ++ [EX (us u) m o] ++ [E4 (nw u x)]) r0 0 = -1 := by
  rw [List.append_assoc, res_pl h]
  simp only [List.cons_append, List.nil_append, res, sexec h ho hx, sgood, if_true]
theorem res_become {u m o x : Int} (h : 1 ≤ u ∧ u ≤ 4096) (ho : 0 ≤ o ∧ o ≤ 4095) (hx : (mb m != 0) = true ∧ x = o ∨ (mb m != 0) = false ∧ x = u) : res (pl u ++ [EX (us u) m o] ++ [E4 (nw u x)] ++ [EB (nw u x)]) r0 0 = 6 := by
  rw [List.append_assoc, List.append_assoc, res_pl h]
  simp only [List.cons_append, List.nil_append, res, sexec h ho hx, sgood, sbecome, if_true]
  simp


/-! ### operations -/
section
variable {ops : Array Oper} {rest : List Oper} {o : Oper} {a : Act} {w w2 : World} {Q : Exit → Act → World → Prop}
theorem wpList_same {P : Program} (v : Value) (hgd : o.guard = none) (hr : (execOp a.eval o).run P w = .ok (.value v) w) (h : wpList P ops Q rest (a.put o.dst v) w) : wpList P ops Q (o :: rest) a w :=
  wpList_val v w hgd hr h
theorem run_new0 (ho : o.op = .buildSlice 22 0 #[]) : (execOp a.eval o).run Try.prog w = .ok (.value (.slice (some ⟨w.heap.size, 0, none⟩) 0 0)) (w.alloc (.cells #[] 40)) := by
  unfold execOp
  rw [ho]
  kernel_rfl
theorem wpList_new0 (hgd : o.guard = none) (ho : o.op = .buildSlice 22 0 #[]) (h : wpList Try.prog ops Q rest (a.put o.dst (.slice (some ⟨w.heap.size, 0, none⟩) 0 0)) (w.alloc (.cells #[] 40))) : wpList Try.prog ops Q (o :: rest) a w :=
  wpList_val _ _ hgd (run_new0 ho) h
theorem run_newE {x : Operand} {e : Ev} (ho : o.op = .buildSlice 22 1 #[(0, x)]) (hx : a.eval x = .agg e.cells) : (execOp a.eval o).run Try.prog w = .ok (.value (.slice (some ⟨w.heap.size, 0, none⟩) 1 1)) (w.alloc (.cells e.cells 40)) := by
  unfold execOp
  rw [ho]
  simp only [List.map_toArray, List.map_cons, List.map_nil, hx]
  kernel_rfl
theorem wpList_newE {x : Operand} {e : Ev} (hgd : o.guard = none) (ho : o.op = .buildSlice 22 1 #[(0, x)]) (hx : a.eval x = .agg e.cells) (h : wpList Try.prog ops Q rest (a.put o.dst (.slice (some ⟨w.heap.size, 0, none⟩) 1 1)) (w.alloc (.cells e.cells 40))) : wpList Try.prog ops Q (o :: rest) a w :=
  wpList_val _ _ hgd (run_newE ho hx) h
end

/-! ### two pieces that are laid in either order -/
structure TB (w2 w : World) (g : Nat) (e : Ev) : Prop where
  blk : Blk w g 40 e.cells
  lo : w2.heap.size ≤ g
  chg : Chg nobody w2 w
structure TAB (w2 w : World) (v : Value) (n : Nat) (xs : List Value) (g : Nat) (e : Ev) : Prop where
  a : AppSt w2 w v n xs
  blk : Blk w g 40 e.cells
  lo : w2.heap.size ≤ g
  ne : ∀ b, v.ownBlock = some b → b ≠ g
section
variable {ops : Array Oper} {o : Oper} {a : Act} {w w2 : World} {K : Act → World → Prop} {Q : Exit → Act → World → Prop} {E : Prop} {v : Value} {n : Nat} {xs : List Value} {g : Nat} {e : Ev}
theorem TB.start (w : World) (e : Ev) : TB w (w.alloc (.cells e.cells 40)) w.heap.size e := ⟨Blk.new w 40 _, Nat.le_refl _, (Chg.refl nobody w).alloc _⟩
theorem AppSt.newE (h : AppSt w2 w v n xs) (e : Ev) : TAB w2 (w.alloc (.cells e.cells 40)) v n xs w.heap.size e :=
  ⟨⟨h.own.alloc _, h.chg.alloc _, h.new⟩, Blk.new w 40 _, h.chg.size, fun b hb e => by have := h.own.lt hb; omega⟩
theorem TB.new0 (h : TB w2 w g e) : TAB w2 (w.alloc (.cells #[] 40)) (.slice (some ⟨w.heap.size, 0, none⟩) 0 0) 0 [] g e :=
  ⟨⟨Own.made w #[] 40 45 0 0 rfl (by unfold maxLen; omega), h.chg.alloc _, fun b hb => by simp [Value.ownBlock] at hb; have := h.chg.size; omega⟩, h.blk.alloc _, h.lo, fun b hb e' => by simp [Value.ownBlock] at hb; have := h.blk.lt; omega⟩
theorem step_appS {s x : Operand} {y : Value} {m : Nat} {news : List Value} (hgd : o.guard = none) (ho : o.op = .call { callee := .builtin .append, args := #[s, x], argTypes := #[22, 22] }) (hty : o.type = 22) (h : AppSt w2 w v n xs)
    (hs : a.eval s = v) (hx : a.eval x = y) (hsrc : Src Try.prog 45 22 y m news w) (hb : n + m ≤ 1000)
    (hK : ∀ v' w', AppSt w2 w' v' (n + m) (xs ++ news) → Chg (fun b => v.ownBlock = some b) w w' → (∀ b, v'.ownBlock = some b → v.ownBlock = some b ∨ w.heap.size ≤ b) → K (a.put o.dst v') w') :
    if Region.wanted o (yielded ops a.tmps) = true then Oper.wp Try.prog o a w K Q else E := by
  refine step_appAt hgd s x 22 22 ho 40 (.agg Z40) 45 408 Try.underlying22 info40b rfl v n xs 0 y m news hs hx h.own (by omega) hsrc (by unfold maxLen; omega) (by omega) ?_
  intro v' w' ho hc hn _
  refine hK v' w' ⟨ho, h.chg.trans hc (fun i hi hb => by have := h.new i hb; omega), fun b hb => ?_⟩ hc hn
  rcases hn b hb with h1 | h1
  · exact h.new b h1
  · exact Nat.le_trans h.chg.size h1
theorem TAB.app {v' : Value} {w' : World} {n' : Nat} {xs' : List Value} (h : TAB w2 w v n xs g e) (ha : AppSt w2 w' v' n' xs') (hc : Chg (fun b => v.ownBlock = some b) w w') (hn : ∀ b, v'.ownBlock = some b → v.ownBlock = some b ∨ w.heap.size ≤ b) : TAB w2 w' v' n' xs' g e :=
  ⟨ha, h.blk.chg hc (fun e => h.ne _ e rfl), h.lo, fun b hb e' => by
    rcases hn b hb with h1 | h1
    · exact h.ne b h1 e'
    · have := h.blk.lt; omega⟩
theorem blk_src {cap : Nat} (h : Blk w g 40 e.cells) (hg : GoodE e) : Src Try.prog 45 22 (.slice (some ⟨g, 0, none⟩) 1 cap) 1 (flat [e]) w := evs_src (es := [e]) (evs_one h) (fun x hx => by rw [List.mem_singleton.1 hx]; exact hg) cap
end
theorem evZ_good {pid : Int} {cr : Cr} {op n own grp an mode owner : Int} (hp : 0 ≤ pid ∧ pid ≤ 2) (ha : 0 ≤ an ∧ an ≤ 2) : GoodE (evZ pid cr op n own grp an mode owner) :=
  ⟨wfi_small (x := pid) (by omega) (by omega), wfi_small (x := an) (by omega) (by omega), evZ_one _ _ _ _ _ _ _ _ _⟩
def CrS (cb : Nat) (c : Cr) (W : World) : Prop := W.cell? ⟨cb, 0, none⟩ = some (.int .i64 c.r) ∧ W.cell? ⟨cb, 1, none⟩ = some (.int .i64 c.e) ∧ W.cell? ⟨cb, 2, none⟩ = some (.int .i64 c.s) ∧ W.cell? ⟨cb, 3, none⟩ = some (.int .i64 c.g) ∧ W.cell? ⟨cb, 4, none⟩ = some (.int .i64 c.h)
theorem CrS.chg {cb : Nat} {c : Cr} {w w' : World} (h : CrS cb c w) (hc : Chg nobody w w') (hl : cb < w.heap.size) : CrS cb c w' := by
  have g : ∀ j u, w.cell? ⟨cb, j, none⟩ = some u → w'.cell? ⟨cb, j, none⟩ = some u := fun j u h => (hc.cell (p := ⟨cb, j, none⟩) hl (fun h => h)).trans h
  obtain ⟨h0, h1, h2, h3, h4⟩ := h
  exact ⟨g _ _ h0, g _ _ h1, g _ _ h2, g _ _ h3, g _ _ h4⟩
/-- A list that the law has made, at a world. -/
def LAt (w : World) (v : Value) (es : List Ev) : Prop := ∃ a c, v = .slice a es.length c ∧ es.length ≤ c ∧ EvsAt w a es
theorem LAt.gr {w w' : World} {v : Value} {es : List Ev} (h : LAt w v es) (hg : w.grownBy w' none) : LAt w' v es := by
  obtain ⟨a, c, h1, h2, h3⟩ := h
  exact ⟨a, c, h1, h2, h3.gr hg⟩
theorem LAt.src {w : World} {v : Value} {es : List Ev} (h : LAt w v es) (hg : ∀ e ∈ es, GoodE e) : Src Try.prog 45 22 v es.length (flat es) w := by
  obtain ⟨a, c, rfl, _, h3⟩ := h
  exact evs_src h3 hg c
theorem LAt.of {w : World} {v : Value} {es : List Ev} {n : Nat} (h : Own w 40 45 v n (flat es) 0) (hn : n = es.length) : LAt w v es := evs_own h hn
theorem lat_check {w : World} {v : Value} {es : List Ev} (h : LAt w v es) (hg : ∀ e ∈ es, GoodE e) (hl : es.length ≤ 1000) : Calls Try.prog 7 #[v] w fun x w' => x = .returned (.int .i64 (res es r0 0)) ∧ w.grownBy w' none := by
  obtain ⟨a, c, rfl, hc, he⟩ := h
  exact check_any a c es w he hl hc (fun e he => hg e he)
theorem good_app {l : List Ev} {e : Ev} (h : ∀ x ∈ l, GoodE x) (he : GoodE e) : ∀ x ∈ l ++ [e], GoodE x := fun x hx => (List.mem_append.1 hx).elim (h x) (fun hx => by rw [List.mem_singleton.1 hx]; exact he)

section
variable {ops : Array Oper} {o : Oper} {a : Act} {w w2 : World} {Q : Exit → Act → World → Prop} {S : World → Prop} {l : List Oper} {i : Nat} {R : Act → World → Prop} {v : Value} {n : Nat} {xs : List Value} {e : Ev}
theorem ft_new0 (hi : l[i]? = some o) (hgd : o.guard = none) (ho : o.op = .buildSlice 22 0 #[]) (hS : S (w.alloc (.cells #[] 40))) (h : R (a.put o.dst (.slice (some ⟨w.heap.size, 0, none⟩) 0 0)) (w.alloc (.cells #[] 40))) : wpOne Try.prog ops S Q l i R a w := by
  unfold wpOne
  rw [hi]
  intro K hK
  exact step_val _ _ hgd (run_new0 ho) (hK.out _ _ hS h)
theorem ft_newE {x : Operand} (e : Ev) (hi : l[i]? = some o) (hgd : o.guard = none) (ho : o.op = .buildSlice 22 1 #[(0, x)]) (hx : a.eval x = .agg e.cells) (hS : S (w.alloc (.cells e.cells 40))) (h : R (a.put o.dst (.slice (some ⟨w.heap.size, 0, none⟩) 1 1)) (w.alloc (.cells e.cells 40))) : wpOne Try.prog ops S Q l i R a w := by
  unfold wpOne
  rw [hi]
  intro K hK
  exact step_val _ _ hgd (run_newE ho hx) (hK.out _ _ hS h)
theorem ft_app {s x : Operand} {y : Value} {m : Nat} {news : List Value} (hi : l[i]? = some o) (hgd : o.guard = none) (ho : o.op = .call { callee := .builtin .append, args := #[s, x], argTypes := #[22, 22] }) (hty : o.type = 22) (h : AppSt w2 w v n xs)
    (hs : a.eval s = v) (hx : a.eval x = y) (hsrc : Src Try.prog 45 22 y m news w) (hb : n + m ≤ 1000) (hSK : ∀ w', Chg nobody w2 w' → S w')
    (hK : ∀ v' w', AppSt w2 w' v' (n + m) (xs ++ news) → Chg (fun b => v.ownBlock = some b) w w' → (∀ b, v'.ownBlock = some b → v.ownBlock = some b ∨ w.heap.size ≤ b) → R (a.put o.dst v') w') : wpOne Try.prog ops S Q l i R a w := by
  unfold wpOne
  rw [hi]
  intro K hK'
  exact step_appS hgd ho hty h hs hx hsrc hb fun v' w' h1 h2 h3 => hK'.out _ _ (hSK w' h1.chg) (hK v' w' h1 h2 h3)
theorem ft_last (hi : l[i]? = some o) (h : wpList Try.prog ops Q [o] a w) : wpTree Try.prog ops S Q l (.last i) a w := by
  unfold wpTree
  rw [hi]
  exact h
theorem app_fin {es : List Ev} (h : AppSt w2 w v (0 + es.length + 1) (([] ++ flat es) ++ flat [e])) : LAt w v (es ++ [e]) ∧ w2.grownBy w none := by
  have ho := h.own
  rw [List.nil_append, ← flat_app] at ho
  exact ⟨LAt.of ho (by rw [List.length_append, Nat.zero_add]; rfl), h.chg.grown (fun _ _ h => h)⟩
end

theorem wpList_new4 {ops : Array Oper} {rest : List Oper} {o : Oper} {a : Act} {w : World} {Q : Exit → Act → World → Prop} {x0 x1 x2 x3 : Operand} {e0 e1 e2 e3 : Ev} (hgd : o.guard = none) (ho : o.op = .buildSlice 22 4 #[(0, x0), (1, x1), (2, x2), (3, x3)]) (h0 : a.eval x0 = .agg e0.cells) (h1 : a.eval x1 = .agg e1.cells) (h2 : a.eval x2 = .agg e2.cells) (h3 : a.eval x3 = .agg e3.cells)
    (h : wpList Try.prog ops Q rest (a.put o.dst (.slice (some ⟨w.heap.size, 0, none⟩) 4 4)) (w.alloc (.cells (flat [e0, e1, e2, e3]).toArray 40))) : wpList Try.prog ops Q (o :: rest) a w := by
  refine wpList_val _ _ hgd ?_ h
  unfold execOp
  rw [ho]
  simp only [List.map_toArray, List.map_cons, List.map_nil, h0, h1, h2, h3]
  kernel_rfl

theorem wpList_appS {ops : Array Oper} {rest : List Oper} {a : Act} {w2 w : World} {Q : Exit → Act → World → Prop} {d : Option Tmp} {t : TypeId} {pos : String} {af : Array Edge} {s x : Operand} {v y : Value} {n m : Nat} {xs news : List Value} (ht : t = 22)
    (h : AppSt w2 w v n xs) (hs : a.eval s = v) (hx : a.eval x = y) (hsrc : Src Try.prog 45 22 y m news w) (hb : n + m ≤ 1000)
    (hK : ∀ v' w', AppSt w2 w' v' (n + m) (xs ++ news) → wpList Try.prog ops Q rest (a.put d v') w') :
    wpList Try.prog ops Q (⟨d, .call { callee := .builtin .append, args := #[s, x], argTypes := #[22, 22] }, t, pos, af, none⟩ :: rest) a w := by
  subst ht
  refine wpList_appAt 40 (.agg Z40) 45 408 Try.underlying22 info40b rfl v n xs 0 _ m news hs hx h.own (by omega) hsrc (by unfold maxLen; omega) (by omega) ?_
  intro v' w' ho hc hn _
  refine hK v' w' ⟨ho, h.chg.trans hc (fun i hi hb => by have := h.new i hb; omega), fun b hb => ?_⟩
  rcases hn b hb with h1 | h1
  · exact h.new b h1
  · exact Nat.le_trans h.chg.size h1
theorem good_pl {u : Int} : ∀ x ∈ pl u, GoodE x := by
  intro x hx
  unfold pl at hx
  simp only [List.mem_cons, List.not_mem_nil, or_false] at hx
  rcases hx with rfl | rfl | rfl | rfl <;> exact evZ_good (by omega) (by omega)
theorem lat_four {w : World} {u : Int} : LAt (w.alloc (.cells (flat (pl u)).toArray 40)) (.slice (some ⟨w.heap.size, 0, none⟩) 4 4) (pl u) := by
  have h := Own.made w (flat (pl u)).toArray 40 45 4 0 (by rw [List.size_toArray, flat_len]; rfl) (by unfold maxLen; omega)
  exact LAt.of h rfl

end Go.Proofs.Ytolmpejaakpikaa
