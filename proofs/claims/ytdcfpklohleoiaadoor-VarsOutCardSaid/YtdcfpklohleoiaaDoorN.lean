/- shown. -/
import Derived.Test.YtdcfpklohleoiaaDoorM
namespace Go.Proofs.YtdcfpklohleoiaaDoor
open Go.RowKit
set_option maxRecDepth 100000

def M1 : List V := [⟨[120], [49], false, true⟩]
def F1 : List V := [⟨[97], [51], true, false⟩]
theorem sh1 : setF [] [120] [49] = ([⟨[120], [49], false, false⟩], 0) := by kernel_rfl
theorem sh2 : markF [⟨[120], [49], false, false⟩] [120] false true = (M1, 0) := by kernel_rfl
theorem sh3 : setF M1 [120] [50] = (M1, 21) := by kernel_rfl
theorem sh4 : fromF [[97, 61, 49], [98], [61, 50], [97, 61, 51]] = F1 := by kernel_rfl
theorem sh5 : getV F1 [97] = [51] := by kernel_rfl
theorem sh6 : foundB F1 [97] = true := by kernel_rfl
theorem sh7 : quoteF [105, 116, 39, 115] = [39, 105, 116, 39, 92, 39, 39, 115, 39] := by kernel_rfl
theorem wfS : WF [⟨[120], [49], false, false⟩] := by have := wf_set WF.nil [120] [49]; rw [sh1] at this; exact this
theorem wfM : WF M1 := by have := wf_mark wfS [120] false true; rw [sh2] at this; exact this
theorem wfF : WF F1 := by have := wf_from [[97, 61, 49], [98], [61, 50], [97, 61, 51]]; rw [sh4] at this; exact this

set_option maxHeartbeats 4000000 in
theorem shown_any (w : World) : Calls Tryd.prog 7 #[] w fun e w' => e = .returned (.bool true) ∧ w.grownBy w' none := by
  have h1 := fun w => set_any [] [120] [49] (.slice none 0 0) w WF.nil (Own.nil _ _ _ _) (by decide) (by decide)
  have h2 := fun v w (ho : Own w 35 4 v ([⟨[120], [49], false, false⟩] : List V).length (vcs [⟨[120], [49], false, false⟩]) 0) => mark_any _ [120] false true v w wfS ho (by decide)
  have h3 := fun v w (ho : Own w 35 4 v M1.length (vcs M1) 0) => set_any M1 [120] [50] v w wfM ho (by decide) (by decide)
  have h4 := fun a cap w hs => from_any [[97, 61, 49], [98], [61, 50], [97, 61, 51]] a cap w hs (by decide) (by decide)
  have h5 := fun v w (ho : Own w 35 4 v F1.length (vcs F1) 0) => get_any F1 [97] v w wfF ho
  have h6 := fun w => quote_any [105, 116, 39, 115] w (by decide)
  rw [sh1] at h1
  rw [sh2] at h2
  rw [sh3] at h3
  rw [sh4] at h4
  rw [sh5, sh6] at h5
  rw [sh7] at h6
  unfold sv envV EnvPost at h1 h2 h3
  unfold EnvIs at h4
  unfold sv envV at h5
  unfold sv at h6
  have H1 := hide h1
  have H2 := hide h2
  have H3 := hide h3
  have H4 := hide h4
  have H5 := hide h5
  have H6 := hide h6
  clear h1 h2 h3 h4 h5 h6
  go_enter Tryd.func7, Tryd.ntmps7
  go_wp2_with fail
  refine (H1.out _).mono ?_
  rintro e w1 ⟨v1, rfl, ho1, g1⟩
  obtain ⟨a1, c1, rfl, _, _⟩ := ho1.form
  have HE1 := hide (⟨Blk.new w1 27 _, ho1.alloc _⟩ : EnvAt (w1.alloc (.cells #[.slice a1 1 c1, .slice none 0 0, .string ⟨#[]⟩] 27)) w1.heap.size (.slice a1 1 c1) [⟨[120], [49], false, false⟩])
  have hle1 := g1.size
  have HG1 := hide (only_alloc g1 (.cells #[.slice a1 1 c1, .slice none 0 0, .string ⟨#[]⟩] 27))
  clear g1 ho1
  unfold envV
  go_wp2_with fail
  refine (H2.out _ _ HE1.out.own).mono ?_
  rintro e w2 ⟨v2, rfl, ho2, g2⟩
  obtain ⟨a2, c2, rfl, _, _⟩ := ho2.form
  have hk := Blk.grown HE1.out.blk g2 (by simp)
  have HE2 := hide (EnvAt.put hk ho2)
  have HG2 := hide (gr27 (none_trans HG1.out g2) (b := w1.heap.size) hle1 (.slice a2 M1.length c2) (.slice none 0 0) (.string ⟨#[]⟩))
  obtain ⟨d0, d1, d2⟩ := res27 hk
  have z0 := Blk.frozen hk 0
  have z1 := Blk.frozen hk 1
  have z2 := Blk.frozen hk 2
  have lb := Blk.lt hk
  clear g2 ho2 hk
  unfold envV
  go_upto_region 3 with (fail)
  generalize ((w2.setCell ⟨w1.heap.size, 0, none⟩ (.slice a2 M1.length c2)).setCell ⟨w1.heap.size, 1, none⟩ (.slice none 0 0)).setCell ⟨w1.heap.size, 2, none⟩ (.string ⟨#[]⟩) = W3 at HE2 HG2 ⊢
  clear d0 d1 d2 z0 z1 z2 lb HE1 HG1
  obtain ⟨d0, d1, d2⟩ := res27 HE2.out.blk
  have lb := Blk.lt HE2.out.blk
  go_wp2_with fail
  refine (H3.out _ _ HE2.out.own).mono ?_
  rintro e w4 ⟨v4, rfl, ho4, g4⟩
  obtain ⟨a4, c4, rfl, _, _⟩ := ho4.form
  have HG4 := hide (only_alloc (none_trans HG2.out g4) (.cells #[.slice a4 M1.length c4, .slice none 0 0, .string ⟨#[]⟩] 27))
  clear ho4 g4 d0 d1 d2 lb HE2 HG2
  unfold envV
  go_upto_region 4 with (fail)
  generalize w4.alloc (.cells #[.slice a4 M1.length c4, .slice none 0 0, .string ⟨#[]⟩] 27) = W4 at HG4 ⊢
  have hstr : StrL (W4.alloc (.cells #[.string ⟨#[97, 61, 49]⟩, .string ⟨#[98]⟩, .string ⟨#[61, 50]⟩, .string ⟨#[97, 61, 51]⟩] 9)) (some ⟨W4.heap.size, 0, none⟩) [[97, 61, 49], [98], [61, 50], [97, 61, 51]] := by
    intro i hi
    refine ⟨W4.heap.size, 0, rfl, by rw [World.size_alloc]; omega, ?_⟩
    have hb := Blk.new W4 9 #[.string ⟨#[97, 61, 49]⟩, .string ⟨#[98]⟩, .string ⟨#[61, 50]⟩, .string ⟨#[97, 61, 51]⟩]
    rw [Nat.zero_add, Blk.cell hb]
    have hi : i < 4 := hi
    match i, hi with
    | 0, _ => rfl
    | 1, _ => rfl
    | 2, _ => rfl
    | 3, _ => rfl
  have HSTR := hide hstr
  clear hstr
  go_wp2_with fail
  refine (H4.out _ _ _ HSTR.out).mono ?_
  rintro e w5 ⟨v5, rfl, ho5, g5⟩
  obtain ⟨a5, c5, rfl, _, _⟩ := ho5.form
  have HE5 := hide (⟨Blk.new w5 27 _, ho5.alloc _⟩ : EnvAt (w5.alloc (.cells #[.slice a5 1 c5, .slice none 0 0, .string ⟨#[]⟩] 27)) w5.heap.size (.slice a5 1 c5) F1)
  have HG5 := hide (only_alloc (none_trans (only_alloc HG4.out _) g5) (.cells #[.slice a5 1 c5, .slice none 0 0, .string ⟨#[]⟩] 27))
  clear ho5 g5
  unfold envV
  go_wp2_with fail
  refine (H5.out _ _ HE5.out.own).mono ?_
  rintro e w6 ⟨rfl, g6⟩
  have HE6 := hide (HE5.out.grown g6)
  have HG6 := hide (none_trans HG5.out g6)
  obtain ⟨d0, d1, d2⟩ := res27 HE6.out.blk
  have lb := Blk.lt HE6.out.blk
  clear g6
  go_wp2_with fail
  refine (H6.out _).mono ?_
  rintro e w7 ⟨rfl, g7⟩
  go_wp2_with fail
  go_ret
  exact ⟨rfl, none_trans HG6.out g7⟩

end Go.Proofs.YtdcfpklohleoiaaDoor
