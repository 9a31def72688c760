/- Has. -/
import Derived.Test.YtphjafidencdeaaH
namespace Go.Proofs.Ytphjafidencdeaa
open Go.RowKit Go.Shelf
attribute [local go_sem] Oper.semAt_some
set_option maxRecDepth 100000

def hasF (p : List UInt8) : Bool := (partsF p).any (·.wild)
set_option maxHeartbeats 1000000 in
theorem has_calls (p : List UInt8) (w : World) (hp : p.length ≤ 1000000) : Calls Try.prog 13 #[sv p] w fun e w' => e = .returned (.bool (hasF p)) ∧ w.grownBy w' none := by
  have Hpc := hide (fun w' => parts_any p w')
  unfold sv at Hpc ⊢
  refine (callsIn_wide (n := 3)).1 ?_
  refine callsIn_of_wp_marks Try.func13 rfl trivial ?_ rfl
  simp only [Try.ntmps13, List.size_toArray, List.length_cons, List.length_nil, Nat.reduceAdd, Nat.reduceSub, Array.replicate_succ, Array.replicate_zero, List.push_toArray, List.append_toArray, List.nil_append, List.cons_append]
  gi_wp2_with fail
  refine ⟨trivial, (callsIn_wide.2 (Hpc.out _)).mono ?_⟩
  rintro e w1 ⟨rfl, rfl⟩
  gi_wp2_with fail
  have hpb := Blk.new (w.alloc (.cells #[.bool false] 4)) 9 #[.string ⟨p.toArray⟩]
  have hrb : Blk ((w.alloc (.cells #[.bool false] 4)).alloc (.cells #[.string ⟨p.toArray⟩] 9)) w.heap.size 4 #[.bool false] := (Blk.new w 4 _).alloc _
  have hg0 : w.grownBy ((w.alloc (.cells #[.bool false] 4)).alloc (.cells #[.string ⟨p.toArray⟩] 9)) none := only_alloc (only_alloc (only_refl w none) _) _
  have hs0 : ((w.alloc (.cells #[.bool false] 4)).alloc (.cells #[.string ⟨p.toArray⟩] 9)).heap.size = w.heap.size + 2 := by rw [World.size_alloc, World.size_alloc]
  rw [World.size_alloc] at hpb
  generalize (w.alloc (.cells #[.bool false] 4)).alloc (.cells #[.string ⟨p.toArray⟩] 9) = W0 at hpb hrb hg0 hs0 ⊢
  refine range_parts (pb := w.heap.size + 1) (p := p) hp rfl hpb (fun pre W => pre.any (·.wild) = false ∧ Blk W w.heap.size 4 #[.bool false] ∧ w.grownBy W none) (fun pre W => pre.any (·.wild) = true ∧ Blk W w.heap.size 4 #[.bool true] ∧ w.grownBy W none) ?hI ?hIx ⟨rfl, hrb, hg0⟩ ?round ?done ?stop
  case hI =>
    rintro pre A B k ⟨h1, h2, h3⟩ hg hk
    exact ⟨h1, Blk.grown h2 hg (by simp; omega), only_new h3 (by omega) hg⟩
  case hIx =>
    rintro pre A B k ⟨h1, h2, h3⟩ hg hk
    exact ⟨h1, Blk.grown h2 hg (by simp; omega), only_new h3 (by omega) hg⟩
  case round =>
    rintro pre x W ⟨h1, h2, h3⟩ hlen hlt
    unfold Pt.agg Pt.cells
    have H1 := hide h1
    have H2 := hide h2
    have H3 := hide h3
    clear h1 h2 h3 hpb hrb hg0
    gi_wp2
    refine ⟨⟨Below.heap_alloc _ _ _ (by omega), Below.heap_alloc _ _ _ (by omega), Below.heap_alloc _ _ _ (by omega)⟩, fun W2 hg2 => ?_⟩
    have hx := Blk.grown (Blk.new W 38 #[.bool x.many, .bool x.wild, .int .u64 x.s.a, .int .u64 x.s.b, .int .u64 x.s.c, .int .u64 x.s.d]) hg2 (by simp; omega)
    have hr := Blk.grown (Blk.alloc H2.out (.cells #[.bool x.many, .bool x.wild, .int .u64 x.s.a, .int .u64 x.s.b, .int .u64 x.s.c, .int .u64 x.s.d] 38)) hg2 (by simp; omega)
    have hgw : w.grownBy W2 none := only_new (only_alloc H3.out (.cells #[.bool x.many, .bool x.wild, .int .u64 x.s.a, .int .u64 x.s.b, .int .u64 x.s.c, .int .u64 x.s.d] 38)) (by omega) hg2
    have c1 : W2.cell? ⟨W.heap.size, 1, none⟩ = some (.bool x.wild) := hx.cell 1
    have r0 : W2.cell? ⟨w.heap.size, 0, none⟩ = some (.bool false) := hr.cell 0
    have z0 := hr.frozen 0
    have Hr := hide hr
    have Hgw := hide hgw
    clear hx hr hgw hg2
    cases hw : x.wild with
    | true =>
      rw [hw] at c1
      have Hw := hide hw
      clear hw
      gi_wp2
      exact ⟨⟨Below.heap_setCell _ _ _ _ (by show w.heap.size + 1 ≠ w.heap.size; omega), Below.heap_setCell _ _ _ _ (by show W0.heap.size ≠ w.heap.size; omega), Below.heap_setCell _ _ _ _ (by show W0.heap.size + 1 ≠ w.heap.size; omega)⟩, by rw [List.any_append]; simp [Hw.out], Blk.set_ Hr.out 0 _, none_setCell Hgw.out (Nat.le_refl _) _⟩
    | false =>
      rw [hw] at c1
      have Hw := hide hw
      clear hw
      gi_wp2
      exact ⟨⟨rfl, rfl, rfl⟩, by rw [List.any_append, H1.out]; simp [Hw.out], Hr.out, Hgw.out⟩
  case done =>
    rintro W ⟨h1, h2, h3⟩ hK
    have r0 : W.cell? ⟨w.heap.size, 0, none⟩ = some (.bool false) := h2.cell 0
    have z0 := h2.frozen 0
    have H1 := hide h1
    have H2 := hide h2
    have H3 := hide h3
    have HK := hide hK
    clear h1 h2 h3 hK hpb hrb hg0
    gi_wp2
    have hK2 : (W.setCell ⟨w.heap.size, 0, none⟩ (.bool false)).heap[W0.heap.size]? = some (.deferred (some [])) := (Below.heap_setCell _ _ _ _ (by show W0.heap.size ≠ w.heap.size; omega)).trans HK.out
    refine ⟨by simp, .inl ⟨_, _, rfl, run_takeDeferred hK2, ?_⟩⟩
    have hb : Blk ((W.setCell ⟨w.heap.size, 0, none⟩ (.bool false)).putObj W0.heap.size (.deferred none)) w.heap.size 4 #[.bool false] := Blk.grown (Blk.set_ H2.out 0 _) (grownBy_putObj' _ _ _) (by simp; omega)
    have hgf : w.grownBy ((W.setCell ⟨w.heap.size, 0, none⟩ (.bool false)).putObj W0.heap.size (.deferred none)) none := only_new (none_setCell H3.out (p := ⟨w.heap.size, 0, none⟩) (Nat.le_refl _) (.bool false)) (by omega) (grownBy_putObj' _ _ _)
    have hc0 : ((W.setCell ⟨w.heap.size, 0, none⟩ (.bool false)).putObj W0.heap.size (.deferred none)).cell? ⟨w.heap.size, 0, none⟩ = some (.bool false) := hb.cell 0
    generalize (W.setCell ⟨w.heap.size, 0, none⟩ (.bool false)).putObj W0.heap.size (.deferred none) = Wf at hc0 hgf ⊢
    refine ⟨.bool false, by simp [results, Try.results13, go_sem, hc0], ?_⟩
    exact ⟨by unfold hasF; rw [H1.out], hgf⟩
  case stop =>
    rintro pre W hpre ⟨h1, h2, h3⟩ hK
    have r0 : W.cell? ⟨w.heap.size, 0, none⟩ = some (.bool true) := h2.cell 0
    have z0 := h2.frozen 0
    have H1 := hide h1
    have H2 := hide h2
    have H3 := hide h3
    have HK := hide hK
    clear h1 h2 h3 hK hpb hrb hg0
    gi_wp2
    refine ⟨by simp, .inl ⟨_, _, rfl, run_takeDeferred HK.out, ?_⟩⟩
    have hb : Blk (W.putObj W0.heap.size (.deferred none)) w.heap.size 4 #[.bool true] := Blk.grown H2.out (grownBy_putObj' _ _ _) (by simp; omega)
    have hgf : w.grownBy (W.putObj W0.heap.size (.deferred none)) none := only_new H3.out (by omega) (grownBy_putObj' _ _ _)
    have hc0 : (W.putObj W0.heap.size (.deferred none)).cell? ⟨w.heap.size, 0, none⟩ = some (.bool true) := hb.cell 0
    generalize W.putObj W0.heap.size (.deferred none) = Wf at hc0 hgf ⊢
    refine ⟨.bool true, by simp [results, Try.results13, go_sem, hc0], ?_⟩
    exact ⟨by unfold hasF; obtain ⟨rest, hr⟩ := hpre; rw [← hr, List.any_append, H1.out]; rfl, hgf⟩

end Go.Proofs.Ytphjafidencdeaa
