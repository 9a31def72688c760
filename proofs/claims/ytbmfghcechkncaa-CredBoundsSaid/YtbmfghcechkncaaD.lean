/- The contracts of cred and of the document's cred, as functions on creds. -/
import Derived.Test.YtbmfghcechkncaaC
namespace Go.Proofs.Ytbmfghcechkncaa
open Go.RowKit

def ofF (u g : Int) : Cr × Int := if (⟨u, u, u, g, g⟩ : Cr).ok then (⟨u, u, u, g, g⟩, 0) else (zero, 1)
def execF (c : Cr) (m o : Int) : Cr × Int := if okTwo c o then (if mb m != 0 then (⟨c.r, o, o, c.g, c.h⟩, 0) else (⟨c.r, c.e, c.e, c.g, c.h⟩, 0)) else (zero, 1)
def setuidF (c : Cr) (u : Int) : Cr × Int :=
  if okTwo c u then (if c.e == 0 then (⟨u, u, u, c.g, c.h⟩, 0) else if u == c.r then (⟨c.r, u, c.s, c.g, c.h⟩, 0) else if u == c.s then (⟨c.r, u, c.s, c.g, c.h⟩, 0) else (zero, 2)) else (zero, 1)
def setgidF (c : Cr) (u : Int) : Cr × Int :=
  if okTwo c u then (if c.e == 0 then (⟨c.r, c.e, c.s, u, u⟩, 0) else if u == c.g then (⟨c.r, c.e, c.s, c.g, u⟩, 0) else (zero, 2)) else (zero, 1)

def ends (x : Cr × Int) (w : World) (e : Ending) (w' : World) : Prop := e = .returned (.tuple #[.agg #[.int .i64 x.1.r, .int .i64 x.1.e, .int .i64 x.1.s, .int .i64 x.1.g, .int .i64 x.1.h], .int .i64 x.2]) ∧ w.grownBy w' none

theorem of_calls (u g : Int) (w : World) : Calls Try.prog 10 #[.int .i64 u, .int .i64 g] w (ends (ofF u g) w) := by
  unfold ofF
  cases h : (⟨u, u, u, g, g⟩ : Cr).ok
  · exact of_any u g w false h
  · exact of_any u g w true h
theorem exec_calls (r e s g k m o : Int) (w : World) : Calls Try.prog 11 #[.agg #[.int .i64 r, .int .i64 e, .int .i64 s, .int .i64 g, .int .i64 k], .int .i64 m, .int .i64 o] w (ends (execF ⟨r, e, s, g, k⟩ m o) w) := by
  unfold execF
  cases h : okTwo ⟨r, e, s, g, k⟩ o
  · exact exec_bad r e s g k m o w h
  cases hb : (mb m != 0)
  · exact exec_plain r e s g k m o w h hb
  · exact exec_set r e s g k m o w h hb
theorem setuid_calls (r e s g k u : Int) (w : World) : Calls Try.prog 12 #[.agg #[.int .i64 r, .int .i64 e, .int .i64 s, .int .i64 g, .int .i64 k], .int .i64 u] w (ends (setuidF ⟨r, e, s, g, k⟩ u) w) := by
  unfold setuidF
  cases h : okTwo ⟨r, e, s, g, k⟩ u
  · exact setuid_bad r e s g k u w h
  cases he : (e == 0)
  · cases hr : (u == r)
    · cases hs : (u == s)
      · exact setuid_perm r e s g k u w h he hr hs
      · exact setuid_saved r e s g k u w h he hr hs
    · exact setuid_real r e s g k u w h he hr
  · exact setuid_all r e s g k u w h he
theorem setgid_calls (r e s g k u : Int) (w : World) : Calls Try.prog 16 #[.agg #[.int .i64 r, .int .i64 e, .int .i64 s, .int .i64 g, .int .i64 k], .int .i64 u] w (ends (setgidF ⟨r, e, s, g, k⟩ u) w) := by
  unfold setgidF
  cases h : okTwo ⟨r, e, s, g, k⟩ u
  · exact setgid_bad r e s g k u w h
  cases he : (e == 0)
  · cases hr : (u == g)
    · exact setgid_perm r e s g k u w h he hr
    · exact setgid_back r e s g k u w h he hr
  · exact setgid_all r e s g k u w h he

theorem okTwo_ways {c : Cr} {x : Int} : (okTwo c x = false → c.ok = false ∨ (c.ok = true ∧ idB x = false)) ∧ (okTwo c x = true → c.ok = true ∧ idB x = true) := by
  unfold okTwo
  cases c.ok <;> cases idB x <;> simp

theorem rexec_calls (r e s g k m o : Int) (w : World) : Calls Try.prog 14 #[.agg #[.int .i64 r, .int .i64 e, .int .i64 s, .int .i64 g, .int .i64 k], .int .i64 m, .int .i64 o] w (ends (execF ⟨r, e, s, g, k⟩ m o) w) := by
  unfold execF
  cases h : okTwo ⟨r, e, s, g, k⟩ o
  · rcases okTwo_ways.1 h with h1 | ⟨h1, h2⟩
    · exact rexec_bad1 r e s g k m o w h1
    · exact rexec_bad2 r e s g k m o w h1 h2
  obtain ⟨h1, h2⟩ := okTwo_ways.2 h
  cases hb : (mb m != 0)
  · exact rexec_plain r e s g k m o w h1 h2 hb
  · exact rexec_set r e s g k m o w h1 h2 hb
theorem rsetuid_calls (r e s g k u : Int) (w : World) : Calls Try.prog 15 #[.agg #[.int .i64 r, .int .i64 e, .int .i64 s, .int .i64 g, .int .i64 k], .int .i64 u] w (ends (setuidF ⟨r, e, s, g, k⟩ u) w) := by
  unfold setuidF
  cases h : okTwo ⟨r, e, s, g, k⟩ u
  · rcases okTwo_ways.1 h with h1 | ⟨h1, h2⟩
    · exact rsetuid_bad1 r e s g k u w h1
    · exact rsetuid_bad2 r e s g k u w h1 h2
  obtain ⟨h1, h2⟩ := okTwo_ways.2 h
  cases he : (e == 0)
  · cases hr : (u == r)
    · cases hs : (u == s)
      · exact rsetuid_perm r e s g k u w h1 h2 he hr hs
      · exact rsetuid_saved r e s g k u w h1 h2 he hr hs
    · exact rsetuid_real r e s g k u w h1 h2 he hr
  · exact rsetuid_all r e s g k u w h1 h2 he
theorem rsetgid_calls (r e s g k u : Int) (w : World) : Calls Try.prog 17 #[.agg #[.int .i64 r, .int .i64 e, .int .i64 s, .int .i64 g, .int .i64 k], .int .i64 u] w (ends (setgidF ⟨r, e, s, g, k⟩ u) w) := by
  unfold setgidF
  cases h : okTwo ⟨r, e, s, g, k⟩ u
  · rcases okTwo_ways.1 h with h1 | ⟨h1, h2⟩
    · exact rsetgid_bad1 r e s g k u w h1
    · exact rsetgid_bad2 r e s g k u w h1 h2
  obtain ⟨h1, h2⟩ := okTwo_ways.2 h
  cases he : (e == 0)
  · cases hr : (u == g)
    · exact rsetgid_perm r e s g k u w h1 h2 he hr
    · exact rsetgid_back r e s g k u w h1 h2 he hr
  · exact rsetgid_all r e s g k u w h1 h2 he

set_option maxHeartbeats 400000 in
theorem rof_calls (u g : Int) (w : World) : Calls Try.prog 13 #[.int .i64 u, .int .i64 g] w (ends (ofF u g) w) := by
  unfold ofF
  cases h : (⟨u, u, u, g, g⟩ : Cr).ok
  all_goals
    have Hok := hide h
    clear h
    unfold ends
    simp only [if_true, Bool.false_eq_true, if_false, zero]
    go_enter Try.func13, Try.ntmps13
    go_wp2_with (go_at_call 19; refine (may_is u u u g g _ _ Hok.out).mono ?_; rintro e w' ⟨rfl, hg⟩; (have Hg := hide hg; clear hg); (obtain ⟨⟨p0, p1, p2, p3, p4⟩, q0, q1, q2, q3, q4⟩ := (((Blk.new w 24 _).alloc _).grown Hg.out (by simp)).c5); (obtain ⟨⟨r0, r1, r2, r3, r4⟩, _⟩ := ((Blk.new1 w _ 24 _).grown Hg.out (by simp)).c5))
  · exact bodyPost_ret (v := .tuple #[.agg #[.int .i64 0, .int .i64 0, .int .i64 0, .int .i64 0, .int .i64 0], .int .i64 1]) (by simp [results, Try.results13, go_sem, p0, p1, p2, p3, p4]) rfl ⟨rfl, (by repeat' (first | (with_reducible refine none_setCell ?_ ?_ _) | (with_reducible refine none_trans ?_ Hg.out) | (with_reducible refine only_alloc ?_ _) | (with_reducible exact only_refl _ _) | omega | (simp; done) | (simp; omega)))⟩
  · exact bodyPost_ret (v := .tuple #[.agg #[.int .i64 u, .int .i64 u, .int .i64 u, .int .i64 g, .int .i64 g], .int .i64 0]) (by simp [results, Try.results13, go_sem, p0, p1, p2, p3, p4]) rfl ⟨rfl, (by repeat' (first | (with_reducible refine none_setCell ?_ ?_ _) | (with_reducible refine none_trans ?_ Hg.out) | (with_reducible refine only_alloc ?_ _) | (with_reducible exact only_refl _ _) | omega | (simp; done) | (simp; omega)))⟩

end Go.Proofs.Ytbmfghcechkncaa
