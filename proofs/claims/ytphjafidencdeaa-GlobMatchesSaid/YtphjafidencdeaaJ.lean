/- The walk of Match. -/
import Derived.Test.YtphjafidencdeaaI
import Derived.Test.YtphjafidencdeaaN
import Derived.Deep.CutRange
namespace Go.Proofs.Ytphjafidencdeaa
open Go.RowKit Go.Shelf
attribute [local go_sem] Oper.semAt_some
set_option maxRecDepth 100000

def ptc (l : List Pt) : List Value := l.flatMap Pt.cells
theorem ptc_len (l : List Pt) : (ptc l).length = l.length * 6 := by
  induction l with
  | nil => rfl
  | cons x r ih =>
    have h : ptc (x :: r) = x.cells ++ ptc r := by simp [ptc]
    rw [h, List.length_append, ih, show x.cells.length = 6 from rfl, List.length_cons]
    omega
theorem ptc_app (l m : List Pt) : ptc (l ++ m) = ptc l ++ ptc m := by simp [ptc]
theorem ptc_get (l : List Pt) : ∀ (n j : Nat) (hn : n < l.length) (_ : j < 6), (ptc l)[n * 6 + j]? = (l[n]).cells[j]? := by
  induction l with
  | nil => intro n j hn; simp at hn
  | cons x r ih =>
    intro n j hn hj
    have h : ptc (x :: r) = x.cells ++ ptc r := by simp [ptc]
    have hl : x.cells.length = 6 := rfl
    cases n with
    | zero => rw [h, Nat.zero_mul, Nat.zero_add, List.getElem?_append_left (by omega)]; rfl
    | succ n =>
      rw [h, List.getElem?_append_right (by omega), hl, show (n + 1) * 6 + j - 6 = n * 6 + j by omega]
      exact ih n j (by simpa using hn) hj
theorem info38 : (Try.prog.info? 38).map (fun i => (i.zero, i.size, i.bytes)) = some (some (.agg pt0.cells.toArray), 6, 40) := by kernel_rfl
theorem partsF_ok : ∀ (m : Nat) (l : List UInt8), l.length = m → ∀ x ∈ partsF l, x.s.ok := by
  intro m
  induction m using Nat.strongRecOn with
  | ind m ih =>
    intro l hm x hx
    by_cases hl : l = []
    · subst hl
      rw [partsF_nil] at hx
      cases hx
    · rw [partsF_cons hl] at hx
      rcases List.mem_cons.1 hx with rfl | hx
      · exact (stepP_le hl).2
      · have := stepP_pos hl
        have : 0 < l.length := List.length_pos_iff.2 hl
        exact ih _ (by rw [List.length_drop]; omega) _ rfl x hx

theorem partsF_len : ∀ (m : Nat) (l : List UInt8), l.length = m → (partsF l).length ≤ l.length := by
  intro m
  induction m using Nat.strongRecOn with
  | ind m ih =>
    intro l hm
    by_cases hl : l = []
    · subst hl
      rw [partsF_nil]
      exact Nat.le_refl _
    · rw [partsF_cons hl]
      have h1 := stepP_pos hl
      have h2 : 0 < l.length := List.length_pos_iff.2 hl
      have := ih _ (by rw [List.length_drop]; omega) (l.drop (stepP l).2) rfl
      rw [List.length_drop] at this
      rw [List.length_cons]
      omega
set_option maxHeartbeats 400000 in
theorem pre27w (l m : List UInt8) (w : World) (hm : m.length ≤ 1000) (hl : l.length ≤ 9223372036854775807) :
    Calls Try.prog 27 #[sv l, sv m] w fun e w' => e = .returned (.bool (decide (l.take m.length = m))) ∧ w' = w := by
  unfold sv
  have h1 := sz l
  have h2 := sz m
  by_cases hlen : m.length ≤ l.length
  · have q1 : decide (((ByteArray.mk m.toArray).size : Int) ≤ ((ByteArray.mk l.toArray).size : Int)) = true := by rw [h1, h2]; simp; omega
    have hx := ext_take l m.length
    have hb := sv_beq (l.take m.length) m
    have i1 : (0 : Int) ≤ ((ByteArray.mk m.toArray).size : Int) ∧ ((ByteArray.mk m.toArray).size : Int) ≤ ((ByteArray.mk l.toArray).size : Int) := by rw [h1, h2]; omega
    have hd : decide (l.take m.length = m) = (l.take m.length == m) := by rw [Bool.eq_iff_iff]; simp
    rw [hd]
    go_enter Try.func27, Try.ntmps27
    go_wp2_with fail
    go_ret
    exact ⟨rfl, rfl⟩
  · have q1 : decide (((ByteArray.mk m.toArray).size : Int) ≤ ((ByteArray.mk l.toArray).size : Int)) = false := by rw [h1, h2]; simp; omega
    have hd : decide (l.take m.length = m) = false := by
      rw [decide_eq_false_iff_not]
      intro e
      have := congrArg List.length e
      rw [List.length_take] at this
      omega
    rw [hd]
    go_enter Try.func27, Try.ntmps27
    go_wp2_with fail
    go_ret
    exact ⟨rfl, rfl⟩

theorem pre18w (l m : List UInt8) (w : World) (hm : m.length ≤ 1000) (hl : l.length ≤ 9223372036854775807) :
    Calls Try.prog 18 #[sv l, sv m] w fun e w' => e = .returned (.bool (decide (l.take m.length = m))) ∧ w' = w := by
  have Hc := hide (pre27w l m w hm hl)
  unfold sv at Hc ⊢
  go_enter Try.func18, Try.ntmps18
  go_wp2_with fail
  refine Hc.out.mono ?_
  rintro e w1 ⟨rfl, rfl⟩
  go_wp2
  go_ret
  exact ⟨rfl, rfl⟩

/-- May a dot at the head of s stand for what p begins with? -/
def dotNo (p s : List UInt8) (dot : Bool) : Bool := dot && decide (s.take 1 = [46]) && !decide (p.take 1 = [46]) && !decide (p.take 2 = [92, 46])
set_option maxHeartbeats 2000000 in
theorem match_dot (p s : List UInt8) (dot : Bool) (w : World) (hp : p.length ≤ 1000000) (hs : s.length ≤ 9223372036854775807) (hd : dotNo p s dot = true) : Calls Try.prog 10 #[sv p, sv s, .bool dot] w fun e w' => e = .returned (.bool false) ∧ w' = w := by
  have h1 := fun w' => pre18w s [46] w' (by simp) hs
  have h2 := fun w' => pre18 p [46] w' (by simp) hp
  have h3 := fun w' => pre18 p [92, 46] w' (by simp) hp
  unfold dotNo at hd
  simp only [Bool.and_eq_true, Bool.not_eq_true', decide_eq_true_eq, decide_eq_false_iff_not] at hd
  obtain ⟨⟨⟨rfl, d1⟩, d2⟩, d3⟩ := hd
  have e1 : decide (s.take [(46 : UInt8)].length = [46]) = true := by simpa using d1
  have e2 : decide (p.take [(46 : UInt8)].length = [46]) = false := by simpa using d2
  have e3 : decide (p.take [(92 : UInt8), 46].length = [92, 46]) = false := by simpa using d3
  rw [e1] at h1
  rw [e2] at h2
  rw [e3] at h3
  unfold sv at h1 h2 h3 ⊢
  have H1 := hide h1
  have H2 := hide h2
  have H3 := hide h3
  clear h1 h2 h3 d1 d2 d3 e1 e2 e3
  refine (callsIn_wide (n := 3)).1 ?_
  refine callsIn_of_wp_marks Try.func10 rfl trivial ?_ rfl
  simp only [Try.ntmps10, List.size_toArray, List.length_cons, List.length_nil, Nat.reduceAdd, Nat.reduceSub, Array.replicate_succ, Array.replicate_zero, List.push_toArray, List.append_toArray, List.nil_append, List.cons_append]
  refine wpIn_wide.2 ?_
  go_wp2_with fail
  refine (H1.out _).mono ?_
  rintro e w1 ⟨rfl, rfl⟩
  go_wp2_with fail
  refine (H2.out _).mono ?_
  rintro e w1 ⟨rfl, rfl⟩
  go_wp2_with fail
  refine (H3.out _).mono ?_
  rintro e w1 ⟨rfl, rfl⟩
  go_wp2
  exact ⟨_, results_tmp rfl _ _ _, rfl, rfl⟩

theorem wpListIn_appAt {F : Fence} {m0 : Nat} {ops : Array Oper} {rest : List Oper} {o : Oper} {a : Act} {w : World} {Q : Exit → Act → World → Prop} (hgd : o.guard = none) (s x : Operand) (T U : TypeId)
    (ho : o.op = .call { callee := .builtin .append, args := #[s, x], argTypes := #[T, U] })
    (e : TypeId) (z : Value) (size bytes : Nat) (ht : Try.prog.underlying T = some (.slice e)) (hinfo : (Try.prog.info? e).map (fun i => (i.zero, i.size, i.bytes)) = some (some z, size, bytes))
    (hzs : z.cells.size = size) (v : Value) (n : Nat) (xs : List Value) (k : Nat) (y : Value) (m : Nat) (news : List Value) (hs : a.eval s = v) (hx : a.eval x = y)
    (hown : Own w e size v n xs k) (hk : k ≤ n * size) (hsrc : Src Try.prog size U y m news w) (h63 : n + m ≤ maxLen) (hbytes : (n + m) * bytes ≤ 140737488355328)
    (h : ∀ v' w', Own w' e size v' (n + m) (xs ++ news) k → Chg (fun b => v.ownBlock = some b) w w' → (∀ b, v'.ownBlock = some b → v.ownBlock = some b ∨ w.heap.size ≤ b) → wpListIn F m0 Try.prog ops Q rest (a.put o.dst v') w') :
    wpListIn F m0 Try.prog ops Q (o :: rest) a w := by
  obtain ⟨i, hi, hz, hsize, hby⟩ := info_parts hinfo
  obtain ⟨v', w', hr, h2, h3, h4, _⟩ := run_append_at (P := Try.prog) w T U o.type e i z size bytes ht hi hz hsize hby hzs v n xs k hown hk y m news hsrc h63 hbytes
  refine wpListIn_plain hgd fun K hK => ?_
  unfold Oper.wpIn
  refine ⟨by simp [Oper.about, ho, resolve, Target.leads, Sem.run_pure], ?_⟩
  rw [Oper.semAt_plain F _ _ (by rw [ho]; intro c hc'; cases hc')]
  simp [execOp, ho, resolve, invoke, builtin, hs, hx, hr, Result.andThen]
  exact hK _ _ (h v' w' h2 h3 h4)
/-- The parts so far, in the slice that the loop appends to. -/
structure MI (w W : World) (tb pb D : Nat) (pre : List Pt) : Prop where
  v : ∃ v, Blk W tb 32 #[v] ∧ Own W 38 6 v pre.length (ptc pre) 0 ∧ ∀ b, v.ownBlock = some b → b ≠ tb ∧ b ≠ pb ∧ b ≠ D ∧ b ≠ D + 1 ∧ w.heap.size ≤ b
  gr : w.grownBy W none
theorem MI.grown {w A B : World} {tb pb D k : Nat} {pre : List Pt} (h : MI w A tb pb D pre) (hg : A.grownBy B (some k)) (hk : k = pb ∨ k = D ∨ k = D + 1) (htb : tb ≠ pb ∧ tb ≠ D ∧ tb ≠ D + 1) (hl : w.heap.size ≤ pb ∧ w.heap.size ≤ D) : MI w B tb pb D pre := by
  obtain ⟨v, h1, h2, h3⟩ := h.v
  have hc : Chg (one_ k) A B := Chg.of_grown hg (fun j hj => by injection hj with hj; exact hj.symm)
  refine ⟨⟨v, Blk.grown h1 hg (by simp; omega), h2.chg hc (fun b hb e => ?_), h3⟩, only_new h.gr (by omega) hg⟩
  have h4 := h3 b hb
  have : b = k := e
  omega

theorem lex1 {A B x x' y y' M Q : Nat} (h : A < B) (hx : x < M) (hy : y < Q) : (A * M + x) * Q + y < (B * M + x') * Q + y' := by
  have h1 : A * M + x + 1 ≤ B * M + x' := by
    have : (A + 1) * M ≤ B * M := Nat.mul_le_mul_right M h
    rw [Nat.add_mul, Nat.one_mul] at this
    omega
  have h2 : (A * M + x + 1) * Q ≤ (B * M + x') * Q := Nat.mul_le_mul_right Q h1
  rw [Nat.add_mul, Nat.one_mul] at h2
  omega
theorem lex2 {A x x' y y' M Q : Nat} (hx : x < x') (hy : y < Q) : (A * M + x) * Q + y < (A * M + x') * Q + y' := by
  have h2 : (A * M + x + 1) * Q ≤ (A * M + x') * Q := Nat.mul_le_mul_right Q (by omega)
  rw [Nat.add_mul, Nat.one_mul] at h2
  omega
theorem drop_map_cons {P : List Pt} {i : Nat} {q : Pt} (hL : (P.map kd)[i]? = some (kd q)) : (P.map kd).drop i = kd q :: (P.map kd).drop (i + 1) := by
  obtain ⟨h, e⟩ := List.getElem?_eq_some_iff.1 hL
  rw [List.drop_eq_getElem_cons h, e]
theorem ma_no_one {P : List Pt} {i k : Nat} {q : Pt} {s : List UInt8} (hL : (P.map kd)[i]? = some (kd q)) (hm : q.many = false) (hk : k < s.length) (hf : q.s.has s[k] = false) : ¬ Ma ((P.map kd).drop i) (s.drop k) := by
  intro h
  rw [drop_map_cons hL, List.drop_eq_getElem_cons hk] at h
  unfold kd at h
  rw [if_neg (by rw [hm]; decide)] at h
  obtain ⟨c, t, e, hc, _⟩ := ma_one.1 h
  injection e with e1 _
  rw [← e1, hf] at hc
  cases hc
theorem ma_no_end {P : List Pt} {i k : Nat} {s : List UInt8} (hi : ¬ i < P.length) (hk : k < s.length) : ¬ Ma ((P.map kd).drop i) (s.drop k) := by
  intro h
  rw [List.drop_eq_nil_of_le (by rw [List.length_map]; omega)] at h
  have e := congrArg List.length (ma_nil.1 h)
  rw [List.length_drop] at e
  simp at e
  omega
/-- How Match answers. -/
def isMa (p s : List UInt8) (e : Ending) : Prop := ∃ b : Bool, e = .returned (.bool b) ∧ (b = true ↔ Ma ((partsF p).map kd) s)

set_option maxHeartbeats 4000000 in
theorem match_walk (p s : List UInt8) (dot : Bool) (w : World) (hp : p.length ≤ 1000000) (hs : s.length ≤ 9223372036854775807) (hd : dotNo p s dot = false) : Calls Try.prog 10 #[sv p, sv s, .bool dot] w fun e w' => isMa p s e ∧ w.grownBy w' none := by
  have h1 := fun w' => pre18w s [46] w' (by simp) hs
  have h2 := fun w' => pre18 p [46] w' (by simp) hp
  have h3 := fun w' => pre18 p [92, 46] w' (by simp) hp
  have Hpc := hide (fun w' => parts_any p w')
  obtain ⟨x1, e1⟩ : ∃ x, decide (s.take [(46 : UInt8)].length = [46]) = x := ⟨_, rfl⟩
  obtain ⟨x2, e2⟩ : ∃ x, decide (p.take [(46 : UInt8)].length = [46]) = x := ⟨_, rfl⟩
  obtain ⟨x3, e3⟩ : ∃ x, decide (p.take [(92 : UInt8), 46].length = [92, 46]) = x := ⟨_, rfl⟩
  have hd' : (dot && x1 && !x2 && !x3) = false := by rw [← e1, ← e2, ← e3]; exact hd
  rw [e1] at h1
  rw [e2] at h2
  rw [e3] at h3
  unfold sv at h1 h2 h3 Hpc ⊢
  have H1 := hide h1
  have H2 := hide h2
  have H3 := hide h3
  have Hd := hide hd'
  clear h1 h2 h3 e1 e2 e3 hd hd'
  refine (callsIn_wide (n := 3)).1 ?_
  refine callsIn_of_wp_marks Try.func10 rfl trivial ?_ rfl
  simp only [Try.ntmps10, List.size_toArray, List.length_cons, List.length_nil, Nat.reduceAdd, Nat.reduceSub, Array.replicate_succ, Array.replicate_zero, List.push_toArray, List.append_toArray, List.nil_append, List.cons_append]
  refine wpIn_wide.2 ?_
  go_upto_region 1 with (fail)
  go_cut [27] from 13 to 27 (fun v wc => v = .bool false ∧ wc = w)
  case first =>
    cases dot <;> cases x1 <;> cases x2 <;> cases x3
    all_goals first | (exfalso; have := Hd.out; simp at this; done) | skip
    all_goals
      go_wp2_with (first
        | (go_at_call 18; with_reducible refine (H1.out _).mono ?_; rintro e w1 ⟨rfl, rfl⟩)
        | (go_at_call 18; with_reducible refine (H2.out _).mono ?_; rintro e w1 ⟨rfl, rfl⟩)
        | (go_at_call 18; with_reducible refine (H3.out _).mono ?_; rintro e w1 ⟨rfl, rfl⟩))
      go_meet
      case rel => exact ⟨rfl, rfl⟩
  case rest =>
    obtain ⟨rfl, rfl⟩ := hcut
    go_wp2_with fail
    refine (Hpc.out _).mono ?_
    rintro e w1 ⟨rfl, rfl⟩
    go_wp2_with fail
    have hpb := Blk.new (wc.alloc (.cells #[.slice none 0 0] 32)) 9 #[.string ⟨p.toArray⟩]
    have htb : Blk ((wc.alloc (.cells #[.slice none 0 0] 32)).alloc (.cells #[.string ⟨p.toArray⟩] 9)) wc.heap.size 32 #[.slice none 0 0] := (Blk.new wc 32 _).alloc _
    have hg0 : wc.grownBy ((wc.alloc (.cells #[.slice none 0 0] 32)).alloc (.cells #[.string ⟨p.toArray⟩] 9)) none := only_alloc (only_alloc (only_refl wc none) _) _
    have hs0 : ((wc.alloc (.cells #[.slice none 0 0] 32)).alloc (.cells #[.string ⟨p.toArray⟩] 9)).heap.size = wc.heap.size + 2 := by rw [World.size_alloc, World.size_alloc]
    rw [World.size_alloc] at hpb
    generalize (wc.alloc (.cells #[.slice none 0 0] 32)).alloc (.cells #[.string ⟨p.toArray⟩] 9) = W0 at hpb htb hg0 hs0 ⊢
    have hmi0 : MI wc W0 wc.heap.size (wc.heap.size + 1) W0.heap.size [] := ⟨⟨.slice none 0 0, htb, Own.nil _ _ _ _, fun b hb => by simp [Value.ownBlock] at hb⟩, hg0⟩
    refine wpIn_wide.1 (range_parts (n := 3) (pb := wc.heap.size + 1) (p := p) hp rfl hpb (fun pre W => MI wc W wc.heap.size (wc.heap.size + 1) W0.heap.size pre) (fun _ _ => False) ?hI (fun _ _ _ _ h _ _ => h) hmi0 ?round ?done (fun _ _ _ h _ => h.elim))
    case hI =>
      intro pre A B k h hg hk
      exact h.grown hg hk ⟨by omega, by omega, by omega⟩ ⟨by omega, by omega⟩
    case round =>
      intro pre x W hmi hlen hlt
      unfold Pt.agg Pt.cells
      have Hmi := hide hmi
      clear hmi hpb htb hg0 hmi0
      gi_wp2
      refine ⟨⟨Below.heap_alloc _ _ _ (by omega), Below.heap_alloc _ _ _ (by omega), Below.heap_alloc _ _ _ (by omega)⟩, fun W2 hg2 => ?_⟩
      have hx := Blk.grown (Blk.new W 38 #[.bool x.many, .bool x.wild, .int .u64 x.s.a, .int .u64 x.s.b, .int .u64 x.s.c, .int .u64 x.s.d]) hg2 (by simp; omega)
      obtain ⟨c0, c1, c2, c3, c4, c5⟩ := (show PtAt W2 W.heap.size x from hx).c
      have hmi2 : MI wc W2 wc.heap.size (wc.heap.size + 1) W0.heap.size pre := (Hmi.out.grown (only_of_none (only_alloc (only_refl W none) (.cells #[.bool x.many, .bool x.wild, .int .u64 x.s.a, .int .u64 x.s.b, .int .u64 x.s.c, .int .u64 x.s.d] 38)) (some (wc.heap.size + 1))) (.inl rfl) ⟨by omega, by omega, by omega⟩ ⟨by omega, by omega⟩).grown hg2 (.inr (.inr rfl)) ⟨by omega, by omega, by omega⟩ ⟨by omega, by omega⟩
      have hl2 : W.heap.size < W2.heap.size := Blk.lt hx
      obtain ⟨v, hv1, hv2, hv3⟩ := hmi2.v
      have t0 : W2.cell? ⟨wc.heap.size, 0, none⟩ = some v := hv1.cell 0
      have hv4 := hv2.alloc (.cells x.cells.toArray 38)
      have hmd : Own (W2.alloc (.cells x.cells.toArray 38)) 38 6 (.slice (some ⟨W2.heap.size, 0, none⟩) 1 1) 1 (ptc [x]) 0 := by
        have := Own.made W2 x.cells.toArray 38 6 1 0 rfl (by unfold maxLen; omega)
        rw [show x.cells.toArray.toList = ptc [x] from by simp [ptc]] at this
        exact this
      have hsrc := Own.src (P := Try.prog) (tx := 32) (e' := 38) hmd (by kernel_rfl) (by
        intro u hu
        obtain ⟨q, _, hq⟩ := List.mem_flatMap.1 hu
        simp only [Pt.cells, List.mem_cons, List.not_mem_nil, or_false] at hq
        rcases hq with rfl | rfl | rfl | rfl | rfl | rfl <;> rfl)
      unfold Pt.cells at hv4 hsrc
      have Hv1 := hide hv1
      have Hv3 := hide hv3
      have Hv4 := hide hv4
      have Hsrc := hide hsrc
      have Hg2' := hide hmi2.gr
      have htl := hv1.lt
      clear hx hmi2 hv1 hv2 hv3 hv4 hmd hsrc hg2
      gi_wp2_with (gi_at_builtin; refine wpListIn_appAt rfl _ _ 32 32 rfl 38 (.agg pt0.cells.toArray) 6 40 (by kernel_rfl) info38 rfl v pre.length (ptc pre) 0 _ 1 (ptc [x]) rfl rfl Hv4.out (by omega) Hsrc.out (by unfold maxLen; omega) (by omega) ?_; intro v' w' ho hc hn; obtain ⟨fo, fc, rfl, _, _⟩ := Own.form ho; (have hc2 := ((Chg.refl (fun b => v.ownBlock = some b) W2).alloc (.cells #[.bool x.many, .bool x.wild, .int .u64 x.s.a, .int .u64 x.s.b, .int .u64 x.s.c, .int .u64 x.s.d] 38)).trans hc (fun _ _ h => h)); (have hnt : ¬ v.ownBlock = some wc.heap.size := fun e => (Hv3.out _ e).1 rfl); (have k0 := (hc2.cell (p := ⟨wc.heap.size, 0, none⟩) htl hnt).trans t0); (have kz := (Hv1.out.chg hc2 hnt).frozen 0); (have kl := Nat.lt_of_lt_of_le htl hc2.size); have Ho := hide ho; have Hc2 := hide hc2; have Hn := hide hn; clear ho hc hn hc2)
      have hvt : ∀ b, (Value.slice fo (pre.length + 1) fc).ownBlock = some b → b ≠ wc.heap.size ∧ b ≠ wc.heap.size + 1 ∧ b ≠ W0.heap.size ∧ b ≠ W0.heap.size + 1 ∧ wc.heap.size ≤ b := by
        intro b hb
        rcases Hn.out b hb with h | h
        · exact Hv3.out b h
        · rw [World.size_alloc] at h
          omega
      have hkeep : ∀ k, k < W2.heap.size → k ≠ wc.heap.size → (¬ v.ownBlock = some k) → (w'.setCell ⟨wc.heap.size, 0, none⟩ (.slice fo (pre.length + 1) fc)).heap[k]? = W2.heap[k]? := fun k hk hne hno => (Below.heap_setCell _ _ _ _ hne).trans (Hc2.out.block k hk hno)
      refine ⟨⟨hkeep _ (by omega) (by omega) (fun e => (Hv3.out _ e).2.1 rfl), hkeep _ (by omega) (by omega) (fun e => (Hv3.out _ e).2.2.1 rfl), hkeep _ (by omega) (by omega) (fun e => (Hv3.out _ e).2.2.2.1 rfl)⟩, ⟨⟨_, (Hv1.out.chg Hc2.out hnt).set_ 0 _, ?_, hvt⟩, ?_⟩⟩
      · have h9 := Own.far (p := ⟨wc.heap.size, 0, none⟩) Ho.out (fun e => (hvt _ e).1 rfl) (.slice fo (pre.length + 1) fc)
        rw [← ptc_app] at h9
        rw [List.length_append]
        exact h9
      · exact ((((Chg.of_grown Hg2'.out (fun _ h => by cases h) : Chg nobody wc W2)).trans Hc2.out (fun i hi hb => by have := (Hv3.out i hb).2.2.2.2; omega)).setCell (p := ⟨wc.heap.size, 0, none⟩) (.inr (Nat.le_refl _)) _).grown (fun _ _ h => h)
    case done =>
      intro W hmi hK
      have HMI := hide hmi
      have HK := hide hK
      have hs1 : wc.heap.size + 2 ≤ W0.heap.size ∧ W0.heap.size ≤ wc.heap.size + 2 := by omega
      clear hmi hK hpb htb hg0 hmi0 hs0
      obtain ⟨v, hv1, hv2, hv3⟩ := HMI.out.v
      obtain ⟨va, vcap, rfl, hvc, hvm⟩ := hv2.form
      obtain ⟨P, hP⟩ : ∃ P, partsF p = P := ⟨_, rfl⟩
      rw [hP] at hv1 hv2 hv3 hvc
      have HP := hide hP
      have Hv1 := hide hv1
      have Hv2 := hide hv2
      have hpl : P.length ≤ 1000000 := by rw [← hP]; exact Nat.le_trans (partsF_len _ p rfl) hp
      have Hok := hide (show ∀ x ∈ P, x.s.ok by rw [← hP]; exact partsF_ok _ p rfl)
      have t0 : W.cell? ⟨wc.heap.size, 0, none⟩ = some (.slice va P.length vcap) := hv1.cell 0
      have hszs := sz s
      clear hv1 hv2 hv3 hP
      go_wp2_with fail
      go_loopw [9, 10, 11, 12] (fun vi vk vs vf wr => ∃ (i k fr : Nat) (st : Int) (nq : Nat), vi = .int .i64 i ∧ vk = .int .i64 k ∧ vs = .int .i64 st ∧ vf = .int .i64 fr ∧ Greedy (P.map kd) s i k st fr ∧ fr ≤ s.length ∧ wr = W.drewN nq)
        (fun vi _ vs vf _ => ((P.length + 1 - (intOf vs + 1).toNat) * (s.length + 2) + (s.length + 1 - (intOf vf).toNat)) * (P.length + 2) + (P.length + 1 - (intOf vi).toNat))
      case atStart => exact ⟨0, 0, 0, -1, 0, rfl, rfl, rfl, rfl, greedy0 _ _, Nat.zero_le _, rfl⟩
      case round =>
        obtain ⟨i, k, fr, st, nq, rfl, rfl, rfl, rfl, hgr, hfr, rfl⟩ := hrel
        have hib := hgr.ib
        have hkb := hgr.kb
        have hlo := hgr.lo
        rw [List.length_map] at hib
        have Hgr := hide hgr
        clear hgr
        by_cases hk : k < s.length
        · have hkc : (0 : Int) ≤ k ∧ (k : Int) < (s.length : Int) := by omega
          have hat := str_at s k hk
          by_cases hi : i < P.length
          · have hic : (0 : Int) ≤ i ∧ (i : Int) < (P.length : Int) := by omega
            obtain ⟨g, off, cap', hva, _, _, hgl, hcell⟩ := Hv2.out.some_ (by omega)
            injection hva with hva _ _
            subst hva
            have hj : ∀ j, j < 6 → W.cell? ⟨g, off + i * 6 + j, none⟩ = (P[i]).cells[j]? := fun j hj => by rw [Nat.add_assoc, hcell _ (by omega), ptc_get P i j hi hj]
            obtain ⟨q, hq⟩ : ∃ q, P[i] = q := ⟨_, rfl⟩
            rw [hq] at hj
            have m0 : W.cell? ⟨g, off + i * 6, none⟩ = some (.bool q.many) := hj 0 (by omega)
            have hL : (P.map kd)[i]? = some (kd q) := by rw [List.getElem?_map, List.getElem?_eq_getElem hi, hq]; rfl
            have HL := hide hL
            have Hj := hide hj
            clear hj hL hcell
            cases hm : q.many with
            | true =>
              have hst := greedy_star Hgr.out (by rw [HL.out]; unfold kd; rw [hm]; rfl)
              have Hst := hide hst
              rw [hm] at m0
              clear hst hm
              go_wp2_with fail
              go_roundw
              case rel => exact ⟨i + 1, k, k, i, nq, by go_num, rfl, rfl, rfl, Hst.out, by omega, rfl⟩
              case measure => simp only [intOf]; exact lex1 (by omega) (by omega) (by omega)
            | false =>
              rw [hm] at m0
              obtain ⟨b, hb⟩ : ∃ b, q.s.has s[k] = b := ⟨_, rfl⟩
              have hokq : q.s.ok := Hok.out q (by rw [← hq]; exact List.getElem_mem hi)
              have hwd : W.cell? ⟨g, off + i * 6 + 2 + s[k].toNat / 64, none⟩ = some (.int .u64 (q.s.get (s[k].toNat / 64))) := by
                have hc8 := s[k].toNat_lt
                have hj := Hj.out (2 + s[k].toNat / 64) (by omega)
                rw [← Nat.add_assoc] at hj
                rw [hj]
                rcases (show s[k].toNat / 64 = 0 ∨ s[k].toNat / 64 = 1 ∨ s[k].toNat / 64 = 2 ∨ s[k].toNat / 64 = 3 by omega) with h | h | h | h <;> rw [h] <;> rfl
              have hhas := fun w' => has_any g (off + i * 6) q s[k] w' hokq
              rw [hb] at hhas
              have Hhas := hide hhas
              have Hwd := hide hwd
              have Hm := hide hm
              have Hb := hide hb
              clear hhas hwd hokq hm hb hq
              cases b with
              | true =>
                have hst := greedy_one Hgr.out (f := q.s.has) (by rw [HL.out]; unfold kd; rw [if_neg (by rw [Hm.out]; decide)]) hk Hb.out
                have Hst := hide hst
                clear hst
                go_wp2_with fail
                go_quiet (first | (go_at_call 20; go_must (refine quiet_add_same (Hhas.out _ Hwd.out))))
                go_wp2_with fail
                go_roundw
                case rel => exact ⟨i + 1, k + 1, fr, st, _, by go_num, by go_num, rfl, rfl, Hst.out, by omega, rfl⟩
                case measure => simp only [intOf]; omega
              | false =>
                have Hno := hide (ma_no_one HL.out Hm.out hk Hb.out)
                go_wp2_with fail
                go_quiet (first | (go_at_call 20; go_must (refine quiet_add_same (Hhas.out _ Hwd.out))))
                by_cases h0 : 0 ≤ st
                · have hnx := greedy_back Hgr.out h0 hk Hno.out
                  obtain ⟨sn, rfl⟩ : ∃ sn : Nat, st = sn := ⟨st.toNat, by omega⟩
                  have Hnx := hide hnx
                  have hlo2 := hnx.ib
                  have hkb2 := hnx.kb
                  rw [List.length_map] at hlo2
                  clear hnx
                  have hst0 : decide ((0 : Int) ≤ (sn : Int)) = true := by simp
                  go_wp2_with fail
                  go_roundw
                  case rel => exact ⟨sn + 1, fr + 1, fr + 1, sn, _, by go_num, by go_num, rfl, by go_num, Hnx.out, by omega, rfl⟩
                  case measure => simp only [intOf]; exact lex2 (by omega) (by omega)
                · have hnx := greedy_fail Hgr.out h0 Hno.out
                  have Hnx := hide hnx
                  clear hnx
                  have hst0 : decide ((0 : Int) ≤ st) = false := by simp; omega
                  go_wp2_with fail
                  refine ⟨by simp, .inl ⟨_, _, rfl, run_takeDeferred (w := W.drewN _) HK.out, ?_⟩⟩
                  refine ⟨_, results_tmp rfl _ _ _, ⟨false, rfl, ?_⟩, only_new (only_drewN HMI.out.gr _) (by omega) (grownBy_putObj' _ _ _)⟩
                  rw [HP.out]
                  exact ⟨fun h => (by cases h), fun h => (Hnx.out h).elim⟩
          · have Hno := hide (ma_no_end (k := k) (s := s) hi hk)
            have hi' : decide ((i : Int) < (P.length : Int)) = false := by simp; omega
            go_wp2_with fail
            go_quiet (fail)
            by_cases h0 : 0 ≤ st
            · have hnx := greedy_back Hgr.out h0 hk Hno.out
              obtain ⟨sn, rfl⟩ : ∃ sn : Nat, st = sn := ⟨st.toNat, by omega⟩
              have Hnx := hide hnx
              have hlo2 := hnx.ib
              have hkb2 := hnx.kb
              rw [List.length_map] at hlo2
              clear hnx
              have hst0 : decide ((0 : Int) ≤ (sn : Int)) = true := by simp
              go_wp2_with fail
              go_roundw
              case rel => exact ⟨sn + 1, fr + 1, fr + 1, sn, _, by go_num, by go_num, rfl, by go_num, Hnx.out, by omega, rfl⟩
              case measure => simp only [intOf]; exact lex2 (by omega) (by omega)
            · have hnx := greedy_fail Hgr.out h0 Hno.out
              have Hnx := hide hnx
              clear hnx
              have hst0 : decide ((0 : Int) ≤ st) = false := by simp; omega
              go_wp2_with fail
              refine ⟨by simp, .inl ⟨_, _, rfl, run_takeDeferred (w := W.drewN _) HK.out, ?_⟩⟩
              refine ⟨_, results_tmp rfl _ _ _, ⟨false, rfl, ?_⟩, only_new (only_drewN HMI.out.gr _) (by omega) (grownBy_putObj' _ _ _)⟩
              rw [HP.out]
              exact ⟨fun h => (by cases h), fun h => (Hnx.out h).elim⟩
        · have hk' : decide ((k : Int) < (s.length : Int)) = false := by simp; omega
          have Hgz := hide (show Ma ((partsF p).map kd) s ↔ ∀ x ∈ (P.map kd).drop i, x = none by rw [HP.out]; exact greedy_end Hgr.out (by omega))
          clear Hgr
          go_wp2_with fail
          go_loopw [9] (fun vi wr => ∃ (i2 nq2 : Nat), vi = .int .i64 i2 ∧ i ≤ i2 ∧ i2 ≤ P.length ∧ (∀ j, i ≤ j → j < i2 → (P.map kd)[j]? = some none) ∧ wr = W.drewN nq2) (fun vi _ => P.length + 1 - (intOf vi).toNat)
          case atStart => exact ⟨i, nq, rfl, Nat.le_refl _, hib, fun j h1 h2 => by omega, rfl⟩
          case round =>
            obtain ⟨i2, nq2, rfl, hi1, hi2, hall, rfl⟩ := hrel
            have Hall := hide hall
            clear hall
            by_cases hi : i2 < P.length
            · have hic : (0 : Int) ≤ i2 ∧ (i2 : Int) < (P.length : Int) := by omega
              obtain ⟨g, off, cap', hva, _, _, hgl, hcell⟩ := Hv2.out.some_ (by omega)
              injection hva with hva _ _
              subst hva
              have hj : ∀ j, j < 6 → W.cell? ⟨g, off + i2 * 6 + j, none⟩ = (P[i2]).cells[j]? := fun j hj => by rw [Nat.add_assoc, hcell _ (by omega), ptc_get P i2 j hi hj]
              obtain ⟨q, hq⟩ : ∃ q, P[i2] = q := ⟨_, rfl⟩
              rw [hq] at hj
              have m0 : W.cell? ⟨g, off + i2 * 6, none⟩ = some (.bool q.many) := hj 0 (by omega)
              have HL := hide (show (P.map kd)[i2]? = some (kd q) by rw [List.getElem?_map, List.getElem?_eq_getElem hi, hq]; rfl)
              clear hj hcell hq
              cases hm : q.many with
              | true =>
                rw [hm] at m0
                have Hkd := hide (show kd q = none by unfold kd; rw [if_pos hm])
                clear hm
                go_wp2_with fail
                go_roundw
                case rel =>
                  refine ⟨i2 + 1, nq2, by go_num, by omega, by omega, fun j h1 h2 => ?_, rfl⟩
                  by_cases e : j = i2
                  · subst e
                    rw [HL.out, Hkd.out]
                  · exact Hall.out j h1 (by omega)
                case measure => simp only [intOf]; omega
              | false =>
                rw [hm] at m0
                have Hne := hide (show ¬ ∀ x ∈ (P.map kd).drop i, x = none from fun h => by
                  have h9 := h (kd q) (List.mem_of_getElem? (i := i2 - i) (by rw [List.getElem?_drop, show i + (i2 - i) = i2 by omega]; exact HL.out))
                  unfold kd at h9
                  rw [if_neg (by rw [hm]; decide)] at h9
                  cases h9)
                clear hm
                have heq : ((i2 : Int) == (P.length : Int)) = false := by rw [beq_eq_false_iff_ne]; omega
                go_wp2_with fail
                refine ⟨by simp, .inl ⟨_, _, rfl, run_takeDeferred (w := W.drewN _) HK.out, ?_⟩⟩
                refine ⟨_, results_tmp rfl _ _ _, ⟨false, rfl, ?_⟩, only_new (only_drewN HMI.out.gr _) (by omega) (grownBy_putObj' _ _ _)⟩
                exact ⟨fun h => (by cases h), fun h => (Hne.out (Hgz.out.1 h)).elim⟩
            · have hi' : decide ((i2 : Int) < (P.length : Int)) = false := by simp; omega
              have heq : ((i2 : Int) == (P.length : Int)) = true := by rw [beq_iff_eq]; omega
              have Hyes := hide (show ∀ x ∈ (P.map kd).drop i, x = none from fun x hx => by
                obtain ⟨j, hj⟩ := List.mem_iff_getElem?.1 hx
                rw [List.getElem?_drop] at hj
                have hjl := (List.getElem?_eq_some_iff.1 hj).1
                rw [List.length_map] at hjl
                have h9 := Hall.out (i + j) (by omega) (by omega)
                rw [h9] at hj
                injection hj with hj
                exact hj.symm)
              go_wp2_with fail
              refine ⟨by simp, .inl ⟨_, _, rfl, run_takeDeferred (w := W.drewN _) HK.out, ?_⟩⟩
              refine ⟨_, results_tmp rfl _ _ _, ⟨true, rfl, ?_⟩, only_new (only_drewN HMI.out.gr _) (by omega) (grownBy_putObj' _ _ _)⟩
              exact ⟨fun _ => Hgz.out.2 Hyes.out, fun _ => rfl⟩

end Go.Proofs.Ytphjafidencdeaa
