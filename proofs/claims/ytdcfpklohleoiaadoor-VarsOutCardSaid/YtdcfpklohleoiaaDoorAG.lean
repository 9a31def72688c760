/- The walk of VarsOut. -/
import Derived.Test.YtdcfpklohleoiaaDoorAGQ
import Derived.Test.YtdcfpklohleoiaaDoorXL
namespace Go.Proofs.YtdcfpklohleoiaaDoor
open Go.RowKit
set_option maxRecDepth 100000

/-- The tokens of a quoted text. -/
def LqPost (q : List UInt8) (w : World) (e : Ending) (w' : World) : Prop := ∃ g off cap, e = .returned (.tuple #[.slice (some ⟨g, off, none⟩) 2 cap, .int .i64 0, .int .i64 0]) ∧ g < w'.heap.size ∧ w'.cell? ⟨g, off, none⟩ = some (.int .i64 1) ∧ w'.cell? ⟨g, off + 1, none⟩ = some (.string ⟨q.toArray⟩) ∧ w.grownBy w' none
theorem lexq_any (s : List UInt8) (w : World) (hs : s.length ≤ 800) : Calls Tryd.prog 25 #[.string ⟨(quoteF s).toArray⟩] w (LqPost (quoteF s) w) := by
  have hl := quote_len2 s
  have h := Lx.all_any (quoteF s) w (by omega)
  rw [all_quote s hs] at h
  refine h.mono fun e w' h => ?_
  obtain ⟨⟨v, rfl, ho, _⟩, hg⟩ := h
  obtain ⟨g, off, cap, rfl, _, _, hgl, hc⟩ := ho.some_ (by simp)
  exact ⟨g, off, cap, rfl, hgl, hc 0 (by simp), hc 1 (by simp), hg⟩

set_option maxHeartbeats 8000000 in
theorem outs_any (ss : List (List UInt8)) (s : List UInt8) (a1 : Option Addr) (cap1 : Nat) (w : World) (hs : StrL w a1 ss) (hsl : ∀ s ∈ ss, s.length ≤ 140737488355328) (hc1 : ss.length ≤ cap1) (hbig1 : ss.length ≤ 9223372036854775807) (hsm : s.length ≤ 9223372036854775807) :
    Calls Tryd.prog 6 #[.slice a1 ss.length cap1, .string ⟨s.toArray⟩] w fun e w' => e = .returned (.bool true) ∧ w.grownBy w' none := by
  have Hsh := hide (fun w' => shown_any w')
  have hsl2 : ∀ s ∈ ss.take 200, s.length ≤ 140737488355328 := fun s h => hsl s (List.mem_of_mem_take h)
  have hsl3 : ∀ s ∈ ss.take 200, s.length ≤ 9223372036854775807 := fun s h => by have := hsl2 s h; omega
  have hlt2 : (ss.take 200).length ≤ 200 := List.length_take_le _ _
  have Hfrom := hide (fun w' (hs : StrL w' a1 (ss.take 200)) => from_any (ss.take 200) a1 cap1 w' hs (by omega) hsl3)
  have HS := hide (hs.take 200)
  have HWF := hide (wf_from (ss.take 200))
  have HNM := hide (nm_from (ss.take 200) hsl2)
  have HXP := hide (xp_from (ss.take 200))
  obtain ⟨E, hE⟩ : ∃ E, fromF (ss.take 200) = E := ⟨_, rfl⟩
  rw [hE] at Hfrom HWF HNM HXP
  have hel := HWF.out.len
  have hol := out_len E
  have HBK := hide (out_back HWF.out HXP.out)
  have HOS := hide (fun s (h : s ∈ outF E) => (show s.length ≤ 9223372036854775807 by
    unfold outF at h
    obtain ⟨a, ha, rfl⟩ := List.mem_map.1 h
    have h1 := HNM.out a (List.mem_filter.1 ha).1
    have h2 := HWF.out.vl a (List.mem_filter.1 ha).1
    unfold eqT
    simp only [List.length_append, List.length_cons, List.length_nil]
    omega))
  have Hout := hide (fun W v (hW : Own W 35 4 v E.length (vcs E) 0) => out_any E v W HWF.out HNM.out hW)
  have Hfrom2 := hide (fun W a cap (hW : StrL W a (outF E)) => from_any (outF E) a cap W hW (by omega) HOS.out)
  rw [HBK.out] at Hfrom2
  have Hsame := hide (fun v1 v2 W h1 h2 => rsame_any E v1 v2 W h1 h2 (by omega))
  unfold EnvIs at Hfrom Hfrom2
  unfold envV at Hfrom Hfrom2 Hsame Hout
  unfold LsPost at Hout
  obtain ⟨O, hO⟩ : ∃ O, outF E = O := ⟨_, rfl⟩
  rw [hO] at Hout Hfrom2
  have Hq := hide (fun W (h : s.length ≤ 800) => quote_any s W (by omega))
  have Hlex := hide (fun W (h : s.length ≤ 800) => lexq_any s W h)
  unfold LqPost at Hlex
  unfold sv at Hq
  obtain ⟨q, hq⟩ : ∃ q, quoteF s = q := ⟨_, rfl⟩
  rw [hq] at Hlex Hq
  have qq : (q == q) = true := by simp
  have h1 := sz s
  obtain ⟨L2, hL2⟩ : ∃ L2, (ss.take 200).length = L2 := ⟨_, rfl⟩
  have hL3 : (ss.length ≤ 200 → ss.length = L2) ∧ (200 < ss.length → 200 = L2) := by
    rw [List.length_take] at hL2
    exact ⟨fun h => by omega, fun h => by omega⟩
  have HL := hide hL3
  rw [hL2] at Hfrom
  clear hs hsl hE hsl2 hsl3 hlt2 hL2 hL3 hO hq HBK
  go_enter Tryd.func6, Tryd.ntmps6
  go_wp2_with fail
  refine (Hsh.out _).mono ?_
  rintro e w1 ⟨rfl, g1⟩
  have HG1 := hide g1
  clear g1
  go_upto_if 16 with (fail)
  go_cut [0] (fun v wc => v = .slice a1 L2 cap1 ∧ w.grownBy wc none)
  case first =>
    by_cases h200 : ss.length ≤ 200
    · have q2 : decide ((200 : Int) < (ss.length : Int)) = false := decide_eq_false (by omega)
      obtain rfl := HL.out.1 h200
      go_wp2_with fail
      go_meet
      case rel => exact ⟨rfl, HG1.out⟩
    · have q2 : decide ((200 : Int) < (ss.length : Int)) = true := decide_eq_true (by omega)
      obtain rfl := HL.out.2 (by omega)
      go_wp2_with fail
      go_meet
      case rel => exact ⟨rfl, HG1.out⟩
  case rest =>
  obtain ⟨rfl, hgc⟩ := hcut
  have HG1 := hide hgc
  clear hgc
  go_wp2_with fail
  refine (Hfrom.out _ (HS.out.grown HG1.out)).mono ?_
  rintro e w2 ⟨v2, rfl, ho2, g2⟩
  obtain ⟨a3, c3, rfl, _, _⟩ := ho2.form
  have HE := hide (⟨Blk.new w2 27 _, ho2.alloc _⟩ : EnvAt (w2.alloc (.cells #[.slice a3 E.length c3, .slice none 0 0, .string ⟨#[]⟩] 27)) w2.heap.size (.slice a3 E.length c3) E)
  have HG2 := hide (only_alloc (none_trans HG1.out g2) (.cells #[.slice a3 E.length c3, .slice none 0 0, .string ⟨#[]⟩] 27))
  clear ho2 g2
  go_wp2_with fail
  refine (Hout.out _ _ HE.out.own).mono ?_
  rintro e w3 ⟨v3, rfl, ho3, g3⟩
  obtain ⟨a4, c4, rfl, _, _⟩ := ho3.form
  have HE3 := hide (HE.out.grown g3)
  have HG3 := hide (none_trans HG2.out g3)
  have HSL := hide (strl_of_own ho3)
  clear ho3 g3
  go_wp2_with fail
  refine (Hfrom2.out _ _ _ HSL.out).mono ?_
  rintro e w4 ⟨v4, rfl, ho4, g4⟩
  obtain ⟨a5, c5, rfl, _, _⟩ := ho4.form
  have HE4 := hide ((HE3.out.grown g4).alloc (.cells #[.slice a5 E.length c5, .slice none 0 0, .string ⟨#[]⟩] 27))
  have HF4 := hide (⟨Blk.new w4 27 _, ho4.alloc _⟩ : EnvAt (w4.alloc (.cells #[.slice a5 E.length c5, .slice none 0 0, .string ⟨#[]⟩] 27)) w4.heap.size (.slice a5 E.length c5) E)
  have HG4 := hide (only_alloc (none_trans HG3.out g4) (.cells #[.slice a5 E.length c5, .slice none 0 0, .string ⟨#[]⟩] 27))
  clear ho4 g4
  obtain ⟨d0, d1, d2⟩ := res27 HE4.out.blk
  have lb := Blk.lt HE4.out.blk
  go_wp2_with fail
  refine (Hsame.out _ _ _ HE4.out.own HF4.out.own).mono ?_
  rintro e w5 ⟨rfl, g5⟩
  have HG5 := hide (none_trans HG4.out g5)
  clear g5 d0 d1 d2 lb
  by_cases h800 : s.length ≤ 800
  · have q8 : decide ((800 : Int) < (s.length : Int)) = false := decide_eq_false (by omega)
    go_wp2_with fail
    refine (Hq.out _ h800).mono ?_
    rintro e w6 ⟨rfl, g6⟩
    have HG6 := hide (none_trans HG5.out g6)
    clear g6
    go_wp2_with fail
    refine (Hlex.out _ h800).mono ?_
    rintro e w7 ⟨g, off, cap, rfl, hgl, c0, c1, g7⟩
    have HG7 := hide (none_trans HG6.out g7)
    clear g7
    go_wp2_with fail
    go_ret
    exact ⟨rfl, HG7.out⟩
  · have q8 : decide ((800 : Int) < (s.length : Int)) = true := decide_eq_true (by omega)
    go_wp2_with fail
    go_ret
    exact ⟨rfl, HG5.out⟩

end Go.Proofs.YtdcfpklohleoiaaDoor
