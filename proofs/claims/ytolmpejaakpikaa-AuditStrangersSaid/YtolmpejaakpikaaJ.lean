/- well as a function of the book and the event. -/
import Derived.Test.YtolmpejaakpikaaI2
set_option linter.all false
namespace Go.Proofs.Ytolmpejaakpikaa
open Go.RowKit Go.Maps

def becomePc (p : Pc) (c : Cl) : Pc := ⟨(ofF c.own c.grp).1, 0, p.nt, (ofF c.own c.grp).1.e == 0⟩
def putB (st : Bk) (k : Int) (p : Pc) : Bk := ⟨updB st.m k (some p), st.last⟩
def wellRes (st : Bk) (e : Ev) : Bk × Bool := match st.m e.pid with
  | none => (st, false)
  | some p =>
    if gate st e = false then (st, false)
    else if e.err ≠ 0 then (st, true)
    else if e.cl.op = 18 then (if e.an ≤ st.last then (st, false) else (⟨updB st.m e.an (some ⟨p.c, if e.pid = 1 then 2 else p.why, false, p.pv⟩), e.an⟩, true))
    else if e.cl.op = 20 then (⟨updB st.m e.pid none, st.last⟩, e.pid != 1)
    else if e.cl.op = 19 then (if (execF p.c (e.i 2) (e.i 3)).2 ≠ 0 then (st, false) else (putB st e.pid (execPc p (e.i 2) (e.i 3)), true))
    else if e.cl.op = 23 then (if badBecome p e.cl = true then (st, false) else (putB st e.pid (becomePc p e.cl), true))
    else if e.cl.op = 26 then (if e.cr.e ≠ 0 then (st, false) else (putB st e.pid ⟨p.c, p.why, p.nt || (e.cl.n == 1), p.pv⟩, true))
    else if e.cl.op = 25 then (st, e.cr.e == 0)
    else (putB st e.pid p, true)
def WellPost (w w' : World) (b mb n : Nat) (r : Bk × Bool) (x : Ending) : Prop := x = .returned (.bool r.2) ∧ BookAt w' b mb (n + 1) r.1 ∧ Chg (bOwn b mb) w w'
theorem BookAt.more {w : World} {b mb n : Nat} {st : Bk} (h : BookAt w b mb n st) (hn : n < 100000) : BookAt w b mb (n + 1) st := ⟨h.blk, h.map.mono (by omega), by omega⟩
theorem keepPost {w : World} {b mb n : Nat} {st : Bk} (h : BookAt w b mb n st) (hn : n < 100000) {y : Bool} {x : Ending} {w' : World} (hp : x = .returned (.bool y) ∧ w.grownBy w' none) : WellPost w w' b mb n (st, y) x :=
  ⟨hp.1, (h.gr hp.2).more hn, (Chg.of_grown hp.2 (fun _ h => by cases h))⟩

theorem well_any (b mb n : Nat) (st : Bk) (e : Ev) (w : World) (h : BookAt w b mb n st) (hw : wfi e.pid) (hwa : wfi e.an) (hn : n < 100000) :
    Calls Try.prog 9 #[.pointer (some ⟨b, 0, none⟩), .agg e.cells] w fun x w' => WellPost w w' b mb n (wellRes st e) x := by
  unfold wellRes
  cases hm : st.m e.pid with
  | none => exact (well_none b mb n st e w h hw hm).mono fun _ _ hp => keepPost h hn hp
  | some p =>
    simp only
    by_cases hg : gate st e = false
    · rw [if_pos hg]
      exact (well_gate b mb n st e w h hw p hm hg).mono fun _ _ hp => keepPost h hn hp
    · rw [if_neg hg]
      have hg1 : gate st e = true := by simpa using hg
      by_cases he : e.err = 0
      · rw [if_neg (by simpa using he)]
        by_cases o1 : e.cl.op = 18
        · rw [if_pos o1]
          by_cases hl : e.an ≤ st.last
          · rw [if_pos hl]
            exact (well_fork_bad b mb n st e w h hw p hm hg1 he o1 hl).mono fun _ _ hp => keepPost h hn hp
          · rw [if_neg hl]
            exact (well_fork_ok b mb n st e w h hw hn p hm hg1 he o1 (by omega) hwa).mono fun _ _ hp => hp
        · rw [if_neg o1]
          by_cases o2 : e.cl.op = 20
          · rw [if_pos o2]
            exact (well_exit b mb n st e w h hw p hm hg1 he o2).mono fun _ _ hp => ⟨hp.1, hp.2.1.more hn, hp.2.2⟩
          · rw [if_neg o2]
            by_cases o3 : e.cl.op = 19
            · rw [if_pos o3]
              by_cases hx : (execF p.c (e.i 2) (e.i 3)).2 = 0
              · rw [if_neg (by simpa using hx)]
                exact (well_exec_ok b mb n st e w h hw hn p hm hg1 he o3 hx).mono fun _ _ hp => hp
              · rw [if_pos hx]
                exact (well_exec_bad b mb n st e w h hw p hm hg1 he o3 hx).mono fun _ _ hp => keepPost h hn hp
            · rw [if_neg o3]
              by_cases o4 : e.cl.op = 23
              · rw [if_pos o4]
                by_cases hb : badBecome p e.cl = true
                · rw [if_pos hb]
                  exact (well_become_bad b mb n st e w h hw p hm hg1 he o4 hb).mono fun _ _ hp => keepPost h hn hp
                · rw [if_neg hb]
                  exact (well_become_ok b mb n st e w h hw hn p hm hg1 he o4 (by simpa using hb)).mono fun _ _ hp => hp
              · rw [if_neg o4]
                by_cases o5 : e.cl.op = 26
                · rw [if_pos o5]
                  by_cases hr : e.cr.e = 0
                  · rw [if_neg (by simpa using hr)]
                    exact (well_note_ok b mb n st e w h hw hn p hm hg1 he o5 hr).mono fun _ _ hp => hp
                  · rw [if_pos hr]
                    exact (well_note_bad b mb n st e w h hw p hm hg1 he o5 hr).mono fun _ _ hp => keepPost h hn hp
                · rw [if_neg o5]
                  by_cases o6 : e.cl.op = 25
                  · rw [if_pos o6]
                    exact (well_take b mb n st e w h hw p hm hg1 he o6).mono fun _ _ hp => keepPost h hn hp
                  · rw [if_neg o6]
                    exact (well_other b mb n st e w h hw hn p hm hg1 he ⟨o1, o2, o3, o4, o5, o6⟩).mono fun _ _ hp => hp
      · rw [if_pos he]
        exact (well_err b mb n st e w h hw p hm hg1 he).mono fun _ _ hp => keepPost h hn hp

end Go.Proofs.Ytolmpejaakpikaa
