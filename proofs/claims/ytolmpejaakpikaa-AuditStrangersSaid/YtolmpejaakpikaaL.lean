/- The document's Check. -/
import Derived.Test.YtolmpejaakpikaaK
import Derived.Test.YtolmpejaakpikaaV
set_option linter.all false
namespace Go.Proofs.Ytolmpejaakpikaa
open Go.RowKit Go.Maps
set_option maxRecDepth 100000

set_option maxHeartbeats 1000000 in
theorem rcheck_any (a : Option Addr) (cap : Nat) (es : List Ev) (w : World) (h : EvsAt w a es) (hl : es.length ≤ 1000) (hcap : es.length ≤ cap) :
    Calls Try.prog 8 #[.slice a es.length cap] w fun x w' => x = .returned (.int .i64 (res es r0 0)) ∧ w.grownBy w' none := by
  have H := hide h
  clear h
  go_enter Try.func8, Try.ntmps8
  go_wp2_with (first
    | (refine wpList_val (o := ⟨some 6, _, _, _, _, _⟩) (.agg #[.int .i64 1, .int .i64 0, .int .i64 0, .int .i64 0, .int .i64 0, .int .i64 0, .int .i64 1, .bool false, .bool false]) w rfl (by kernel_rfl) ?_))
  have hC1 : Blk ((w.alloc (.cells #[.int .i64 1, .int .i64 0, .int .i64 0, .int .i64 0, .int .i64 0, .int .i64 0, .int .i64 1, .bool false, .bool false] 52)).alloc (.cells #[.slice (some ⟨w.heap.size, 0, none⟩) 1 1, .int .i64 1] 55)) (w.heap.size + 1) 55 #[.slice (some ⟨w.heap.size, 0, none⟩) 1 1, .int .i64 1] := Blk.new1 w _ 55 _
  have hO : Own (w.alloc (.cells #[.int .i64 1, .int .i64 0, .int .i64 0, .int .i64 0, .int .i64 0, .int .i64 0, .int .i64 1, .bool false, .bool false] 52)) 52 9 (.slice (some ⟨w.heap.size, 0, none⟩) 1 1) 1 (pcs r0.L) 0 := Own.made w #[.int .i64 1, .int .i64 0, .int .i64 0, .int .i64 0, .int .i64 0, .int .i64 0, .int .i64 1, .bool false, .bool false] 52 9 1 0 rfl (by unfold maxLen; omega)
  have hT0 : RAt ((w.alloc (.cells #[.int .i64 1, .int .i64 0, .int .i64 0, .int .i64 0, .int .i64 0, .int .i64 0, .int .i64 1, .bool false, .bool false] 52)).alloc (.cells #[.slice (some ⟨w.heap.size, 0, none⟩) 1 1, .int .i64 1] 55)) (w.heap.size + 1) (.slice (some ⟨w.heap.size, 0, none⟩) 1 1) r0 := ⟨hC1, hO.alloc _, by decide, by decide⟩
  have hG0 : w.grownBy ((w.alloc (.cells #[.int .i64 1, .int .i64 0, .int .i64 0, .int .i64 0, .int .i64 0, .int .i64 0, .int .i64 1, .bool false, .bool false] 52)).alloc (.cells #[.slice (some ⟨w.heap.size, 0, none⟩) 1 1, .int .i64 1] 55)) none := only_alloc (only_alloc (only_refl w none) _) _
  have hS0 : ∀ i, rOwn (w.heap.size + 1) (.slice (some ⟨w.heap.size, 0, none⟩) 1 1) i → w.heap.size ≤ i := by
    rintro i (e | e)
    · omega
    · simp [Value.ownBlock] at e; omega
  obtain ⟨v0, hv0⟩ : ∃ v0, Value.slice (some ⟨w.heap.size, 0, none⟩) 1 1 = v0 := ⟨_, rfl⟩
  rw [hv0] at hT0 hG0 hS0 ⊢
  have HT0 := hide hT0
  have HG0 := hide hG0
  have HS0 := hide hS0
  clear hC1 hO hT0 hG0 hS0 hv0
  generalize (w.alloc (.cells #[.int .i64 1, .int .i64 0, .int .i64 0, .int .i64 0, .int .i64 0, .int .i64 0, .int .i64 1, .bool false, .bool false] 52)).alloc (.cells #[v0, .int .i64 1] 55) = W0 at HT0 HG0 ⊢
  generalize w.heap.size + 1 = b at HT0 HS0 ⊢
  go_loopw [4] (fun u wr => ∃ (k : Nat) (r : RS) (v : Value), u = .int .i64 k ∧ k ≤ es.length ∧ Inv r ∧ r.L.length ≤ 1 + k ∧ RAt wr b v r ∧ w.grownBy wr none ∧ (∀ i, rOwn b v i → w.heap.size ≤ i) ∧ res (es.drop k) r k = res es r0 0) (fun u _ => es.length - (intOf u).toNat)
  case atStart => exact ⟨0, r0, v0, rfl, by omega, inv0, by decide, HT0.out, HG0.out, HS0.out, rfl⟩
  case round =>
    obtain ⟨k, r, v, rfl, hk, hI, hrl, hT, hG, hS, hres⟩ := hrel
    have HI := hide hI
    have HT := hide hT
    have HG := hide hG
    have HS := hide hS
    have Hres := hide hres
    clear hI hT hG hS hres
    by_cases hlt : k < es.length
    · obtain ⟨g, off, rfl, hg, hr⟩ := H.out k hlt
      obtain ⟨g', off', hae, hg', hr'⟩ := (H.out.gr HG.out) k hlt
      injection hae with hae
      injection hae with e1 e2 _
      subst e1 e2
      obtain ⟨e, he⟩ : ∃ e, es[k] = e := ⟨_, rfl⟩
      rw [he] at hr'
      have He := hide he
      have hq : decide ((k : Int) < (es.length : Int)) = true := by simp; omega
      have hi : (0 : Int) ≤ k ∧ (k : Int) < (es.length : Int) := by omega
      have hCs : e.cells.size = 45 := cells_size e
      obtain ⟨CC, hCC⟩ : ∃ CC, e.cells = CC := ⟨_, rfl⟩
      have HCC := hide hCC
      rw [hCC] at hr' hCs
      have Hr := hide hr'
      have HCs := hide hCs
      clear he hr hr' hg hg' hCC hCs
      go_wp2_with (refine wpList_loadAt rfl _ rfl Hr.out HCs.out rfl ?_)
      have hc := rwell_any b v r e wr HT.out HI.out (by omega)
      rw [HCC.out] at hc
      refine hc.mono ?_
      rintro x w' ⟨rfl, hcg, hto⟩
      have hgr : w.grownBy w' none := by
        have h1 : Chg nobody w wr := Chg.of_grown HG.out (fun _ h => by cases h)
        exact (h1.trans hcg (fun i hi hb => by have := HS.out i hb; omega)).grown (fun _ _ h => h)
      have hst := stepR_inv HI.out e
      have hat := res_at hlt r k
      rw [He.out] at hat
      have HGr := hide hgr
      cases hs2 : (stepR r e).2 with
      | false =>
        rw [hs2, if_neg (by simp), Hres.out] at hat
        have Hat := hide hat
        clear hc hcg hto hgr hst hat hs2
        go_wp2
        go_ret
        exact ⟨by rw [Hat.out]; exact rfl, HGr.out⟩
      | true =>
        obtain ⟨v', hT', hn', -⟩ := hto hs2
        rw [hs2, if_pos rfl, Hres.out] at hat
        have Hat := hide hat
        have HT' := hide hT'
        have HN' := hide (show ∀ i, rOwn b v' i → w.heap.size ≤ i from fun i hi => (hn' i hi).elim (HS.out i) (fun h => Nat.le_trans HG.out.size h))
        have Hst := hide (hst hs2)
        clear hc hcg hto hgr hst hat hs2 hT' hn'
        go_wp2
        go_roundw
        case rel => exact ⟨k + 1, (stepR r e).1, v', by go_num, by omega, Hst.out.1, by have := Hst.out.2; omega, HT'.out, HGr.out, HN'.out, by rw [Hat.out]; rfl⟩
        case measure => simp [intOf]; omega
    · have hq : decide ((k : Int) < (es.length : Int)) = false := by simp; omega
      go_wp2
      go_ret
      have hr := Hres.out
      rw [List.drop_eq_nil_of_le (by omega)] at hr
      exact ⟨by rw [← hr]; exact rfl, HG.out⟩

end Go.Proofs.Ytolmpejaakpikaa
