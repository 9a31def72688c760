/- The program's Check. -/
import Derived.Test.YtolmpejaakpikaaN
import Derived.Test.YtolmpejaakpikaaI
import Derived.Test.YtolmpejaakpikaaR
set_option linter.all false
namespace Go.Proofs.Ytolmpejaakpikaa
open Go.RowKit Go.Maps
set_option maxRecDepth 100000

/-- A slice of events. -/
def EvsAt (w : World) (a : Option Addr) (es : List Ev) : Prop := ∀ k (h : k < es.length), ∃ g off, a = some ⟨g, off, none⟩ ∧ g < w.heap.size ∧ w.rangeAt g (off + k * 45) (es[k]).cells.toList
theorem EvsAt.chg {w w' : World} {a : Option Addr} {es : List Ev} {S : Nat → Prop} (h : EvsAt w a es) (hc : Chg S w w') (hS : ∀ g off, a = some ⟨g, off, none⟩ → ¬ S g) : EvsAt w' a es := by
  intro k hk
  obtain ⟨g, off, rfl, hg, hr⟩ := h k hk
  exact ⟨g, off, rfl, Nat.lt_of_lt_of_le hg hc.size, fun j v hj => (hc.cell (p := ⟨g, off + k * 45 + j, none⟩) hg (hS g off rfl)).trans (hr j v hj)⟩
theorem EvsAt.gr {w w' : World} {a : Option Addr} {es : List Ev} (h : EvsAt w a es) (hg : w.grownBy w' none) : EvsAt w' a es := h.chg (Chg.of_grown hg (fun _ h => by cases h) : Chg nobody w w') (fun _ _ _ h => h)
theorem wpList_insert {w : World} {mb n : Nat} {m : Int → Option Value} {ops : Array Oper} {rest : List Oper} {o : Oper} {a : Act} {Q : Exit → Act → World → Prop} (hg : o.guard = none) (x y z : Operand) (hop : o.op = Op.insert 46 x y z) (hx : a.eval x = .map (some mb)) (h : MapIs Try.prog 3 w mb n m) (k : Int) (v : Value) (hy : a.eval y = .int .i64 k) (hz : a.eval z = v) (hk : wfi k) (hn : n < 1000000)
    (hK : ∀ w', MapIs Try.prog 3 w' mb (n + 1) (updM m k (some v)) → w.grownBy w' (some mb) → wpList Try.prog ops Q rest (a.put o.dst undef) w') : wpList Try.prog ops Q (o :: rest) a w := by
  refine wpList_plain hg fun K' hK' => ?_
  obtain ⟨w', hrun, h1, h2⟩ := h.put Try.underlying3 hk v hn 46 Try.underlying46
  unfold Oper.wp
  simp [execOp, hop, hx, hy, hz, hrun, Result.andThen]
  exact hK' _ _ (hK w' h1 h2)

def Z40 : Array Value := #[.int .i64 0, .int .i64 0, .int .i64 0, .int .i64 0, .int .i64 0, .int .i64 0, .int .i64 0, .string ⟨#[]⟩, .string ⟨#[]⟩, .string ⟨#[]⟩, .int .i64 0, .int .i64 0, .int .i64 0, .int .i64 0, .int .i64 0, .int .i64 0, .int .i64 0, .bool false, .bool false, .bool false, .bool false, .int .i64 0, .bool false, .bool false, .slice none 0 0, .slice none 0 0, .int .i64 0, .int .i64 0, .int .i64 0, .string ⟨#[]⟩, .slice none 0 0, .int .i64 0, .int .i64 0, .int .i64 0, .int .i64 0, .int .i64 0, .int .i64 0, .int .i64 0, .int .i64 0, .int .i64 0, .int .i64 0, .int .i64 0, .int .i64 0, .int .i64 0, .int .i64 0]
theorem Z40_size : Z40.size = 45 := by kernel_rfl
theorem blk_fill (W : World) (cs : Array Value) (hs : cs.size = 45) : Blk ((W.alloc (.cells Z40 40)).setCells W.heap.size 0 cs.toList) W.heap.size 40 cs ∧ W.grownBy ((W.alloc (.cells Z40 40)).setCells W.heap.size 0 cs.toList) none ∧ (W.alloc (.cells Z40 40)).there W.heap.size 0 cs.size := by
  have h0 := Blk.new W 40 Z40
  have hz := Z40_size
  refine ⟨?_, ?_, fun j hj => ⟨?_, h0.frozen _⟩⟩
  · obtain ⟨cur', a1, a2, a3, a4⟩ := setCells_whole cs.toList 0 Z40 (W.alloc (.cells Z40 40)) h0 (by simp; omega)
    have : cur' = cs := by
      apply Array.ext
      · omega
      · intro i h1 h2
        have := a3 i (by simpa using h2)
        rw [Nat.zero_add, Array.getElem?_eq_getElem h1] at this
        simp at this
        rw [Array.getElem?_eq_getElem h2] at this
        exact Option.some.inj this
    subst this
    exact a1
  · have hc : Chg (one_ W.heap.size) W ((W.alloc (.cells Z40 40)).setCells W.heap.size 0 cs.toList) := chg_setCells (S := one_ W.heap.size) rfl _ _ _ ((Chg.refl _ W).alloc _)
    exact hc.grown (fun k hk e => by have : k = W.heap.size := e; omega)
  · rw [h0.cell, Nat.zero_add, Array.getElem?_eq_getElem (by omega)]
    rfl
theorem bk0 : r0.bk.mv = updM (fun _ => none) 1 (some (Pc.agg ⟨zero, 1, false, false⟩)) := by
  funext x
  unfold Bk.mv RS.bk r0 updM
  simp only [look_cons, look_nil]
  by_cases e : x = 1
  · subst e; rfl
  · have e1 : ¬ (1 : Int) = x := fun h => e h.symm
    simp [e, e1]
theorem res_at {es : List Ev} {k : Nat} (hk : k < es.length) (r : RS) (i : Int) : res (es.drop k) r i = if (stepR r es[k]).2 = true then res (es.drop (k + 1)) (stepR r es[k]).1 (i + 1) else i := by
  rw [List.drop_eq_getElem_cons hk]
  rfl
theorem cells_size (e : Ev) : e.cells.size = 45 := rfl
theorem info40 : (Try.prog.info? 40).map (·.size) = some 45 := by kernel_rfl
theorem wpList_loadAt {W : World} {g o : Nat} {cs : Array Value} {ops : Array Oper} {rest : List Oper} {op : Oper} {a : Act} {Q : Exit → Act → World → Prop} (hg : op.guard = none) (x : Operand) (ho : op.op = .load 40 x) (h : W.rangeAt g o cs.toList) (hs : cs.size = 45) (hx : a.eval x = .pointer (some ⟨g, o, none⟩)) (hK : wpList Try.prog ops Q rest (a.put op.dst (.agg cs)) W) : wpList Try.prog ops Q (op :: rest) a W :=
  wpList_load_mid hg 40 x ho g o hx cs.toList _ h Try.underlying40 rfl (by rw [Array.length_toList, hs]; exact info40) (by simpa using hK)
theorem wpList_alloc40 {W : World} {ops : Array Oper} {rest : List Oper} {op : Oper} {a : Act} {Q : Exit → Act → World → Prop} (hg : op.guard = none) (ho : op.op = .alloc 40) (hK : wpList Try.prog ops Q rest (a.put op.dst (.pointer (some ⟨W.heap.size, 0, none⟩))) (W.alloc (.cells Z40 40))) : wpList Try.prog ops Q (op :: rest) a W :=
  wpList_val _ _ hg (by unfold execOp; rw [ho]; kernel_rfl) hK
theorem wpList_store40 {W : World} {b : Nat} {cs : Array Value} (hs : cs.size = 45) {ops : Array Oper} {rest : List Oper} {op : Oper} {a : Act} {Q : Exit → Act → World → Prop} (hg : op.guard = none) (x y : Operand) (ho : op.op = .store 40 x y) (hx : a.eval x = .pointer (some ⟨b, 0, none⟩)) (hy : a.eval y = .agg cs) (ht : W.there b 0 cs.size) (h1 : cs.all (·.oneCell') = true) (hK : wpList Try.prog ops Q rest (a.put op.dst undef) (W.setCells b 0 cs.toList)) : wpList Try.prog ops Q (op :: rest) a W :=
  wpList_store_mid hg 40 x y ho b 0 cs hx hy ht (by rw [hs]; exact info40) h1 hK

set_option maxHeartbeats 1000000 in
theorem check_any (a : Option Addr) (cap : Nat) (es : List Ev) (w : World) (h : EvsAt w a es) (hl : es.length ≤ 1000) (hcap : es.length ≤ cap) (hw : ∀ e ∈ es, wfi e.pid ∧ wfi e.an ∧ e.cells.all (·.oneCell') = true) :
    Calls Try.prog 7 #[.slice a es.length cap] w fun x w' => x = .returned (.int .i64 (res es r0 0)) ∧ w.grownBy w' none := by
  have H := hide h
  have Hw := hide hw
  have hmade := MapIs.made Try.prog 3 w
  have hmg : w.grownBy (w.alloc (.map #[] 0)) none := only_alloc (only_refl w none) _
  have Hmade := hide hmade
  have Hmg := hide hmg
  have hsz : (w.alloc (.map #[] 0)).heap.size = w.heap.size + 1 := World.size_alloc _ _
  have Hsz := hide hsz
  clear h hw hmade hmg hsz
  go_enter Try.func7, Try.ntmps7
  go_wp2_with (first
    | (refine wpList_val (o := ⟨some 6, _, _, _, _, _⟩) (.map (some w.heap.size)) (w.alloc (.map #[] 0)) rfl (by kernel_rfl) ?_)
    | (refine wpList_val (o := ⟨some 7, _, _, _, _, _⟩) (Pc.agg ⟨zero, 1, false, false⟩) (w.alloc (.map #[] 0)) rfl (by kernel_rfl) ?_)
    | (refine wpList_insert rfl _ _ _ rfl rfl Hmade.out 1 (Pc.agg ⟨zero, 1, false, false⟩) rfl rfl (wfi_small (by omega) (by omega)) (by omega) ?_; intro W1 hm1 hg1; have Hm1 := hide hm1; have Hg1 := hide hg1; clear hm1 hg1))
  have hB0 : BookAt (W1.alloc (.cells #[.map (some w.heap.size), .int .i64 1] 48)) W1.heap.size w.heap.size 1 r0.bk := by
    refine ⟨Blk.new W1 48 _, ?_, by omega⟩
    rw [bk0]
    exact Hm1.out.chg ((Chg.refl nobody W1).alloc _) (fun h => h)
  have hG0 : w.grownBy (W1.alloc (.cells #[.map (some w.heap.size), .int .i64 1] 48)) none := only_alloc (only_new Hmg.out (Nat.le_refl _) Hg1.out) _
  have hb0 : w.heap.size < W1.heap.size := by have := Hg1.out.size; have := Hsz.out; omega
  have HB0 := hide hB0
  have HG0 := hide hG0
  clear hB0 hG0 Hm1 Hg1
  obtain ⟨mb, hmb⟩ : ∃ mb, mb = w.heap.size := ⟨_, rfl⟩
  rw [← hmb] at HB0 HG0 hb0 ⊢
  have Hmb := hide (show w.heap.size ≤ mb by omega)
  clear hmb
  generalize W1.alloc (.cells #[.map (some mb), .int .i64 1] 48) = W0, W1.heap.size = b at HB0 HG0 hb0 ⊢
  go_loopw [13] (fun v wr => ∃ (k : Nat) (r : RS), v = .int .i64 k ∧ k ≤ es.length ∧ Inv r ∧ BookAt wr b mb (1 + k) r.bk ∧ w.grownBy wr none ∧ res (es.drop k) r k = res es r0 0) (fun v _ => es.length - (intOf v).toNat)
  case atStart => exact ⟨0, r0, rfl, by omega, inv0, HB0.out, HG0.out, rfl⟩
  case round =>
    obtain ⟨k, r, rfl, hk, hI, hB, hG, hres⟩ := hrel
    have HI := hide hI
    have HB := hide hB
    have HG := hide hG
    have Hres := hide hres
    clear hI hB hG hres
    by_cases hlt : k < es.length
    · obtain ⟨g, off, rfl, hg, hr⟩ := H.out k hlt
      obtain ⟨g', off', hae, hg', hr'⟩ := (H.out.gr HG.out) k hlt
      injection hae with hae
      injection hae with e1 e2 _
      subst e1 e2
      obtain ⟨e, he⟩ : ∃ e, es[k] = e := ⟨_, rfl⟩
      rw [he] at hr'
      have hmem := Hw.out e (by rw [← he]; exact List.getElem_mem hlt)
      have Hmem := hide hmem
      have He := hide he
      have hq : decide ((k : Int) < (es.length : Int)) = true := by simp; omega
      have hi : (0 : Int) ≤ k ∧ (k : Int) < (es.length : Int) := by omega
      have hCs : e.cells.size = 45 := cells_size e
      obtain ⟨CC, hCC⟩ : ∃ CC, e.cells = CC := ⟨_, rfl⟩
      have HCC := hide hCC
      rw [hCC] at hr' hmem hCs
      have Hone := hide hmem.2.2
      have Hr := hide hr'
      have HCs := hide hCs
      obtain ⟨f1, f2, f3⟩ := blk_fill wr CC hCs
      obtain ⟨W9, hW9⟩ : ∃ W9, (wr.alloc (.cells Z40 40)).setCells wr.heap.size 0 CC.toList = W9 := ⟨_, rfl⟩
      rw [hW9] at f1 f2
      have HW9 := hide hW9
      have Hld := hide (show W9.rangeAt wr.heap.size 0 CC.toList from fun j v hj => by rw [f1.cell, Nat.zero_add, ← Array.getElem?_toList]; exact hj)
      have F1 := hide f1
      have F2 := hide f2
      have F3 := hide f3
      clear hmem he hr hr' hg hg' f1 f2 f3 hCC hCs hW9
      go_wp2_with (first
        | (refine wpList_loadAt rfl _ rfl Hr.out HCs.out rfl ?_)
        | (refine wpList_alloc40 rfl rfl ?_)
        | (refine wpList_store40 HCs.out rfl _ _ rfl rfl rfl F3.out Hone.out ?_; rw [HW9.out])
        | (refine wpList_loadAt rfl _ rfl Hld.out HCs.out rfl ?_))
      have hc := well_any b mb (1 + k) r.bk e W9 (HB.out.gr F2.out) Hmem.out.1 Hmem.out.2.1 (by omega)
      rw [HCC.out] at hc
      refine hc.mono ?_
      rintro x w' ⟨rfl, hb', hcg⟩
      have hgr : w.grownBy w' none := by
        have h1 : Chg nobody w W9 := Chg.of_grown (none_trans HG.out F2.out) (fun _ h => by cases h)
        exact (h1.trans hcg (fun i hi hb => by have := Hmb.out; rcases hb with e | e <;> (rw [e] at hi; omega))).grown (fun _ _ h => h)
      have hws := well_step HI.out e
      have hst := stepR_inv HI.out e
      have hat := res_at hlt r k
      rw [He.out] at hat
      have HGr := hide hgr
      cases hs2 : (stepR r e).2 with
      | false =>
        rw [hws.1 hs2]
        rw [hs2, if_neg (by simp), Hres.out] at hat
        have Hat := hide hat
        clear hc hb' hcg hgr hws hst hat hs2
        go_wp2
        go_ret
        exact ⟨by rw [Hat.out]; exact rfl, HGr.out⟩
      | true =>
        rw [hws.2 hs2] at hb' ⊢
        rw [hs2, if_pos rfl, Hres.out] at hat
        have Hat := hide hat
        have Hb := hide hb'
        have Hst := hide (hst hs2)
        clear hc hb' hcg hgr hws hst hat hs2
        simp only
        go_wp2
        go_roundw
        case rel => exact ⟨k + 1, (stepR r e).1, by go_num, by omega, Hst.out.1, by rw [show 1 + (k + 1) = 1 + k + 1 by omega]; exact Hb.out, HGr.out, by rw [Hat.out]; rfl⟩
        case measure => simp [intOf]; omega
    · have hq : decide ((k : Int) < (es.length : Int)) = false := by simp; omega
      go_wp2
      go_ret
      have hr := Hres.out
      rw [List.drop_eq_nil_of_le (by omega)] at hr
      exact ⟨by rw [← hr]; rfl, HG.out⟩

end Go.Proofs.Ytolmpejaakpikaa
