/- The walks of Exit, Clone, All, New. -/
import Derived.Test.YtljlbdbgocohlaaF
namespace Go.Proofs.Ytljlbdbgocohlaa
open Go.RowKit Go.Maps

theorem info34 : (Try.prog.info? 34).map (fun i => (i.zero, i.size, i.bytes)) = some (some pr0.agg, 7, 48) := by kernel_rfl

def die (p : Pr) (x : Int) : Pr := { p with dead := true, sta := x }
def orphan (pid : Int) (p : Pr) : Pr := if p.par = pid then { p with par := 1 } else p
def exitRes (st : PS) (pid x : Int) : PS × Int :=
  match liveN st.L pid with
  | some n => if pid = 1 then (st, 2) else ({ st with L := (st.L.set n (die (st.L.getD n pr0) x)).map (orphan pid) }, 0)
  | none => (st, 3)

/-- A copy of processes: new, and whose. -/
structure Made (w w' : World) (v : Value) (L : List Pr) : Prop where
  own : PrsIs w' 34 v L
  new : ∀ b, v.ownBlock = some b → w.heap.size ≤ b
  gr : w.grownBy w' none

set_option maxHeartbeats 400000 in
theorem clone_any (v : Value) (L : List Pr) (hp : 0 < L.length) (w : World) (hr : PrsIs w 34 v L) (hx : L.length ≤ 1000000) :
    Calls Try.prog 32 #[v] w fun e w' => ∃ v', e = .returned v' ∧ Made w w' v' L := by
  have hsrc := hide (Own.src (P := Try.prog) (hr.chg (S := nobody) ((Chg.refl nobody w).alloc (.cells #[] 34)) (fun _ _ h => h)) (tx := 46) Try.underlying46 (pcs_one L))
  obtain ⟨g, off, cap, rfl, h1, h2, h3⟩ := hr.at hp
  have hnil := fun W => Lib.run_eql_slice_nil (P := Try.prog) W 46 34 (some ⟨g, off, none⟩) L.length cap 0 0 (by kernel_rfl)
  clear hr
  go_enter Try.func32, Try.ntmps32
  go_wp2_with (at_builtin; refine wpList_appAt 34 pr0.agg 7 48 (by kernel_rfl) info34 rfl (.slice (some ⟨w.heap.size, 0, none⟩) 0 0) 0 [] 0 _ L.length (pcs L) rfl rfl (Own.made w #[] 34 7 0 0 rfl (by decide)) (by omega) hsrc.out (by unfold maxLen; omega) (by omega) ?_)
  intro v' w2 ho hc hn _
  have hm : Made w w2 v' L := by
    refine ⟨by simpa [PrsIs] using ho, fun b hb => ?_, ?_⟩
    · rcases hn b hb with h | h
      · simp [Value.ownBlock] at h; omega
      · rw [World.size_alloc] at h; omega
    · exact (((Chg.refl nobody w).alloc (.cells #[] 34)).trans hc (fun i hi e => by simp [Value.ownBlock] at e; omega)).grown (fun _ _ e => e)
  have Hm := hide hm
  clear hm ho hc hn hsrc
  go_wp2
  go_ret
  exact ⟨_, rfl, Hm.out⟩

set_option maxHeartbeats 400000 in
theorem all_any (b : Nat) (v : Value) (mb : Nat) (st : PS) (w : World) (h : TabAt w b v mb st) :
    Calls Try.prog 18 #[.pointer (some ⟨b, 0, none⟩)] w fun e w' => ∃ v', e = .returned v' ∧ Made w w' v' st.L := by
  obtain ⟨a0, a1, a2, a3⟩ := h.blk.c4
  have hcl := hide (clone_any v st.L h.pos w h.prs h.len)
  clear h
  go_enter Try.func18, Try.ntmps18
  go_wp2_with fail
  refine hcl.out.mono ?_
  rintro e w1 ⟨v', rfl, hm⟩
  have Hm := hide hm
  clear hm
  go_wp2
  go_ret
  exact ⟨_, rfl, Hm.out⟩

end Go.Proofs.Ytljlbdbgocohlaa
