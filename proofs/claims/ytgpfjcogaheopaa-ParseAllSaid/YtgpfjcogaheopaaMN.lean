/- Several texts in one. -/
import Derived.Test.YtgpfjcogaheopaaMO
import Derived.Test.YtgpfjcogaheopaaEN
import Derived.Test.YtgpfjcogaheopaaMQ
import Derived.Test.YtgpfjcogaheopaaPU
set_option linter.all false
section
/- What lies while the document's reader reads a compound. -/
namespace Go.Proofs.Ytgpfjcogaheopaa
open Go.RowKit Lx
set_option maxRecDepth 100000
/-- The redirections behind a compound. -/
def Kq : Int → List Tok → List Nd → PR Int := fun x ts ns => (redirF ts ns).bind fun l ts ns => .ok x ts (setRd ns x l)
theorem cmpF_eq (co : Drd) (d : Nat) (ts : List Tok) (ns : List Nd) : cmpF co d ts ns = (withinF co d ts ns).bind Kq := rfl
theorem redirF_at (ts : List Tok) (ns : List Nd) : redirF ts ns = (redirF ts []).mv ns id := by
 have h := redir_v (pre := ns) ts []
 simpa [shN] using h
theorem Kq_bad {x a k : Int} {Z : List Tok} {ns : List Nd} (h : redirF Z [] = .bad a k) : Kq x Z ns = .bad a k := by
 unfold Kq
 rw [redirF_at, h]
 rfl
theorem Kq_ok {x : Int} {Z Z2 : List Tok} {ns ns2 : List Nd} {l : List Rd} (hg : Good Z) (h : redirF Z [] = .ok l Z2 ns2) : Kq x Z ns = .ok x Z2 (setRd ns x l) := by
 unfold Kq
 rw [redirF_at, h, (redirF_good hg h).2.1]
 show PR.ok _ _ _ = PR.ok _ _ _
 simp [shN]
theorem setRd_last (N : List Nd) (n : Nd) (l : List Rd) : setRd (N ++ [n]) (N.length : Int) l = N ++ [{ n with redirs := l }] := by
 unfold setRd
 rw [Int.toNat_natCast]
 apply List.ext_getElem?
 intro i
 rw [List.getElem?_modify]
 rcases Nat.lt_trichotomy i N.length with h | h | h
 ·rw [List.getElem?_append_left h, List.getElem?_append_left h]
  have : N.length ≠ i := by omega
  simp [this]
 ·subst h
  simp
 ·rw [List.getElem?_eq_none (by simp; omega), List.getElem?_eq_none (by simp; omega)]
  rfl
/-- A node of parts, and what follows. -/
def Lq (n : Nd) (ps : List (List Nd)) : List Tok → PR Int := fun Z => (layR { n with kids := (joinP ps).2 } Z (joinP ps).1).bind Kq
theorem Lq_bad {n : Nd} {ps : List (List Nd)} {Z : List Tok} {a k : Int} (h : redirF Z [] = .bad a k) : Lq n ps Z = .bad a k := Kq_bad h
theorem Lq_ok {n : Nd} {ps : List (List Nd)} {Z Z2 : List Tok} {ns2 : List Nd} {l : List Rd} (hk : n.kids = []) (hg : Good Z) (h : redirF Z [] = .ok l Z2 ns2) : Lq n ps Z = .ok (joinP ps).1.length Z2 (joinR ps { n with redirs := l }) := by
 show Kq _ _ _ = _
 rw [Kq_ok hg h, setRd_last]
 unfold joinR
 simp only [hk, List.nil_append]
section
variable {α β : Type} {R : PR α} {d n tot : Nat}
theorem Sim.cong {C C2 : List Tok → PR α} {st : DS} (h : Sim R d n tot C st) (hc : ∀ Z d2, st = .ok Z d2 → C Z = C2 Z) : Sim R d n tot C2 st := by
 cases st with
 | ok Z d2 => exact ⟨h.1, h.2.1.trans (hc Z d2 rfl), h.2.2⟩
 | er a k => exact h
theorem Sim.map {C : List Tok → PR α} {st : DS} (h : Sim R d n tot C st) (g : α → List Tok → List Nd → PR β) : Sim (R.bind g) d n tot (fun Z => (C Z).bind g) st := by
 cases st with
 | ok Z d2 => exact ⟨h.1, by rw [h.2.1], h.2.2⟩
 | er a k => exact (show R.bind g = .bad a k by rw [show R = .bad a k from h]; rfl)
end
theorem need_ok_of {s : List UInt8} {st : DS} {Z : List Tok} {d : Nat} (h : needD s st = .ok Z d) : ∃ Z2, st = .ok Z2 d := by
 cases st with
 | er a k => cases h
 | ok Z2 d2 =>
  change (if isB Z2 s = true then DS.ok Z2.tail d2 else wrongD (.ok Z2 d2)) = _ at h
  split at h
  ·injection h with h1 h2
   exact ⟨Z2, by rw [h2]⟩
  ·cases Z2 with
   | nil => change DS.ok [] d2 = _ at h; injection h with h1 h2; exact ⟨[], by rw [h2]⟩
   | cons t r => cases h
theorem joinP1 {ms : List Nd} (h : ms ≠ []) : (joinP [ms]).2 = [(((joinP []).1.length + ms.length : Nat) : Int) - 1] := by
 rw [show ([ms] : List (List Nd)) = [] ++ [ms] from rfl, joinP_snoc]
 unfold joinStep
 rw [if_neg h]
 rfl
/-- A compound's node under way, with its parts. -/
structure CmD (w W : World) (rb : Nat) (T : List Tok) (st : DS) (B : Nat) (n : Nd) (a b p v : Value) (ps : List (List Nd)) : Prop where
 st : DIs W rb T st
 box : Blk W B 33 #[.int .i64 n.kind, .string ⟨n.name.toArray⟩, .bool n.inn, a, b, .slice none 0 0, p, .slice none 0 0]
 hB : w.heap.size ≤ B
 nd : NdAt (low w) W a b (.slice none 0 0) p (.slice none 0 0) n
 parts : ∃ w1 : World, B < w1.heap.size ∧ PartsN w1 W v ps
 kb : ∀ ms ∈ ps, KB ms
 gr : w.grownBy W (some rb)
 rbl : rb < w.heap.size
 cnt : sumL ps ≤ 10000 ∧ ps.length ≤ 600
section
variable {w W W' : World} {rb B d : Nat} {T : List Tok} {st st' : DS} {n : Nd} {a b p v : Value} {ps : List (List Nd)}
theorem CmD.step (h : CmD w W rb T st B n a b p v ps) (hg : W.grownBy W' (some rb)) (ht : DIs W' rb T st') : CmD w W' rb T st' B n a b p v ps := by
 obtain ⟨w1, h1, h2⟩ := h.parts
 exact ⟨ht, Blk.grown h.box hg (fun e => by injection e with e; have := h.hB; have := h.rbl; omega), h.hB, h.nd.drb hg h.st.hasT, ⟨w1, h1, h2.drb hg h.st.hasT⟩, h.kb, only_trans h.gr hg, h.rbl, h.cnt⟩
theorem CmD.form (h : CmD w W rb T st B n a b p v ps) : ∃ x y, v = .slice x ps.length y := by
 obtain ⟨w1, _, cs, h1, _⟩ := h.parts
 obtain ⟨x, y, e, _, _⟩ := h1.form
 exact ⟨x, y, e⟩
/-- Behind the redirections. -/
theorem CmD.setR (h : CmD w W rb T st B n a b p v ps) {u : Value} {l : List Rd} (hl : RdS W u l) (hu : ∀ k, u.ownBlock = some k → w.heap.size ≤ k) :
  DIs (W.setCell ⟨B, 5, none⟩ u) rb T st ∧ Blk (W.setCell ⟨B, 5, none⟩ u) B 33 #[.int .i64 n.kind, .string ⟨n.name.toArray⟩, .bool n.inn, a, b, u, p, .slice none 0 0] ∧
  NdAt (low w) (W.setCell ⟨B, 5, none⟩ u) a b u p (.slice none 0 0) { n with redirs := l } ∧ PartsS (low w) (W.setCell ⟨B, 5, none⟩ u) v ps ∧ w.grownBy (W.setCell ⟨B, 5, none⟩ u) (some rb) := by
 have hT := h.box.hasT
 have hne : ∀ {e : TypeId} {s m k : Nat} {x : Value} {xs : List Value}, Own W e s x m xs k → e ≠ 33 → Own (W.setCell ⟨B, 5, none⟩ u) e s x m xs k := fun ho he => ho.far (p := ⟨B, 5, none⟩) (fun e => he ((Own.hasT ho e).uniq hT)) _
 obtain ⟨w1, h1, cs, h2, h3⟩ := h.parts
 obtain ⟨ds, p1, pa, p2⟩ := h.nd.pats
 have hlow : ∀ k, low w k → k < w1.heap.size := fun k hk => by have := h.hB; unfold low at hk; omega
 refine ⟨h.st.fresh (Nat.lt_of_lt_of_le h.rbl h.hB) 5 u, Blk.set_ h.box 5 u, ⟨hne h.nd.sets (by decide), hne h.nd.words (by decide), hne hl (by decide), ⟨ds, hne p1 (by decide), pa, fun i hi => by obtain ⟨x, hx, hs, ha⟩ := p2 i hi; exact ⟨x, hx, hne hs (by decide), ha⟩⟩, hne h.nd.kids (by decide), h.nd.ha, h.nd.hb, fun k hk e => absurd e (Nat.not_lt.2 (hu k hk)), h.nd.hk⟩, ⟨cs, hne h2 (by decide), fun i hi => ?_⟩, only_setCell h.gr (p := ⟨B, 5, none⟩) (.inr h.hB) _⟩
 obtain ⟨x, hx, hs, hg⟩ := h3 i hi
 exact ⟨x, hx, (hs.mono hlow).far33 (q := ⟨B, 5, none⟩) (fun e => by have := hg B e; omega) hT u⟩
end
def LkF (PQ : PR Nd) (d : Nat) (n : Nd) : DS → Prop
 | .ok ts d2 => d2 = d ∧ ∃ ns, PQ = .ok n ts ns
 | .er a k => PQ = .bad a k
theorem fd_any {w w' : World} {rb d : Nat} {T : List Tok} {PQ : PR Nd} {e : Ending} (h : DPost (vFd w) (bFd w) rb T d w PQ e w') : ∃ v n st, e = .returned v ∧ vFd w w' n v ∧ DIs w' rb T st ∧ w.grownBy w' (some rb) ∧ LkF PQ d n st := by
 cases PQ with
 | ok x ts ns =>
  obtain ⟨v, h1, h2, h3, h4⟩ := h
  exact ⟨v, x, _, h1, h2, h3, h4, rfl, ns, rfl⟩
 | bad a k =>
  obtain ⟨v, h1, ⟨l, h2⟩, h3, h4⟩ := h
  exact ⟨v, l, _, h1, h2, h3, h4, rfl⟩
section
variable {w w1 W W' : World} {rb B d d1 : Nat} {T ts : List Tok} {st st' : DS} {n : Nd} {a b p v vt : Value} {ps : List (List Nd)} {c0 c1 c2 : Value}
theorem NdAt.chgB {av : Nat → Prop} {a b r p k : Value} (h : NdAt av W a b r p k n) (hc : Chg (fun k => k = B) W W') (hT : HasT W B 33) : NdAt av W' a b r p k n :=
 h.fr (base := fun _ => True) (Chg.mono hc fun k _ e => ⟨trivial, .inr (by subst e; exact hT)⟩)
theorem PartsN.chgB (h : PartsN w1 W v ps) (hc : Chg (fun k => k = B) W W') (hT : HasT W B 33) (hB : B < w1.heap.size) : PartsN w1 W' v ps := by
 obtain ⟨cs, h1, h2⟩ := h
 refine ⟨cs, h1.chg hc (fun g hg e => by subst e; exact absurd ((Own.hasT h1 hg).uniq hT) (by decide)), fun i hi => ?_⟩
 obtain ⟨u, hu, ⟨es, x1, x2⟩, hn⟩ := h2 i hi
 exact ⟨u, hu, ⟨es, x1.chg hc (fun g hg e => by subst e; have := hn _ hg; omega), fun j hj => by obtain ⟨x, y, r, q, k, e, hd⟩ := x2 j hj; exact ⟨x, y, r, q, k, e, hd.chgB hc hT⟩⟩, hn⟩
theorem DIs.setDeep {f : Int} {q : Nat} (h : DAt W rb T vt q d1 0 f) (hd : T.drop q = ts) (hx : d + 1 = d1) (hd26 : d1 ≤ 26) : DIs (W.setCell ⟨rb, 2, none⟩ (.int .i64 ((d1 : Int) - 1))) rb T (.ok ts d) := by
 have h2 := h.set 2 (.inl rfl) ((d1 : Int) - 1)
 refine ⟨vt, q, f, ?_, hd, by omega⟩
 have e : (d : Int) = (d1 : Int) - 1 := by omega
 rw [e]
 exact h2
theorem put8_gr (h : w.grownBy W (some rb)) (hB : w.heap.size ≤ B) (e0 e1 e2 e3 e4 e5 e6 e7 : Value) : w.grownBy (put8 W B e0 e1 e2 e3 e4 e5 e6 e7) (some rb) := by
 unfold put8
 exact only_setCell (only_setCell (only_setCell (only_setCell (only_setCell (only_setCell (only_setCell (only_setCell h (p := ⟨B, 0, none⟩) (.inr hB) _) (p := ⟨B, 1, none⟩) (.inr hB) _) (p := ⟨B, 2, none⟩) (.inr hB) _) (p := ⟨B, 3, none⟩) (.inr hB) _) (p := ⟨B, 4, none⟩) (.inr hB) _) (p := ⟨B, 5, none⟩) (.inr hB) _) (p := ⟨B, 6, none⟩) (.inr hB) _) (p := ⟨B, 7, none⟩) (.inr hB) _
theorem CmD.of (hb : Blk W B 33 #[.int .i64 n.kind, .string ⟨n.name.toArray⟩, .bool n.inn, a, b, .slice none 0 0, p, .slice none 0 0]) (hB : w.heap.size ≤ B) (nd : NdAt (low w) W a b (.slice none 0 0) p (.slice none 0 0) n) (hg : w.grownBy W (some rb)) (hr : rb < w.heap.size) (ht : HasT W rb 50) (g : W.grownBy W' (some rb)) (hs : DIs W' rb T st) (hp : PartsN W W' v ps) (hk : ∀ ms ∈ ps, KB ms) (hc : sumL ps ≤ 10000 ∧ ps.length ≤ 600) : CmD w W' rb T st B n a b p v ps :=
 ⟨hs, Blk.grown hb g (fun e => by injection e with e; omega), hB, nd.drb g ht, ⟨W, Blk.lt hb, hp⟩, hk, only_trans hg g, hr, hc⟩
end
theorem joinP2 {a b : List Nd} (ha : a ≠ []) (hb : b ≠ []) : (joinP [a, b]).2 = [(((joinP []).1.length + a.length : Nat) : Int) - 1, (((joinP [a]).1.length + b.length : Nat) : Int) - 1] := by
 rw [joinP_two ha hb]
end Go.Proofs.Ytgpfjcogaheopaa

end
section
/- The walk of the document's compound. -/
namespace Go.Proofs.Ytgpfjcogaheopaa
open Go.RowKit Lx
set_option maxRecDepth 100000
theorem cmpB_tt {t : Tok} (h : cmpB t = true) : t.t = [40] ∨ t.t = [123] ∨ t.t = [105, 102] ∨ t.t = [119, 104, 105, 108, 101] ∨ t.t = [117, 110, 116, 105, 108] ∨ t.t = [102, 111, 114] ∨ t.t = [99, 97, 115, 101] := by
 unfold cmpB at h
 rw [Bool.or_eq_true, Bool.and_eq_true, Bool.and_eq_true] at h
 rcases h with ⟨_, h⟩ | ⟨_, h⟩
 ·exact .inl (eq_of_beq h)
 ·have : t.t ∈ cmpW := by simpa using h
  simp only [cmpW, List.mem_cons, List.not_mem_nil, or_false] at this
  rcases this with h | h | h | h | h | h
  ·exact .inr (.inl h)
  ·exact .inr (.inr (.inl h))
  ·exact .inr (.inr (.inr (.inl h)))
  ·exact .inr (.inr (.inr (.inr (.inl h))))
  ·exact .inr (.inr (.inr (.inr (.inr (.inl h)))))
  ·exact .inr (.inr (.inr (.inr (.inr (.inr h)))))
theorem core_open (lst : Rdr) (r : List Tok) : (coreS lst [123] r []).bind Kq = (lst r []).bind fun x ts ns => (needR wClose ts ns).bind fun _ ts ns => (layR { kind := 8, kids := [x] } ts ns).bind Kq := by
 rw [show coreS lst [123] r [] = (lst r []).bind fun x ts ns => (needR wClose ts ns).bind fun _ ts ns => layR { kind := 8, kids := [x] } ts ns from rfl, bind_bind]
 congr 1; funext x ts ns
 rw [bind_bind]
theorem core_par (lst : Rdr) (r : List Tok) : (coreS lst [40] r []).bind Kq = (lst r []).bind fun x ts ns => (needR sRap ts ns).bind fun _ ts ns => (layR { kind := 9, kids := [x] } ts ns).bind Kq := by
 rw [show coreS lst [40] r [] = (lst r []).bind fun x ts ns => (needR sRap ts ns).bind fun _ ts ns => layR { kind := 9, kids := [x] } ts ns from rfl, bind_bind]
 congr 1; funext x ts ns
 rw [bind_bind]
theorem core_if (lst : Rdr) (r : List Tok) : (coreS lst [105, 102] r []).bind Kq = (ifsF lst (r.length + 1) r []).bind Kq := rfl
theorem core_for (lst : Rdr) (r : List Tok) : (coreS lst [102, 111, 114] r []).bind Kq = (forsF r []).bind fun n ts ns => (lst ts ns).bind fun x ts ns => (needR wDone ts ns).bind fun _ ts ns => (layR { n with kids := [x] } ts ns).bind Kq := by
 rw [show coreS lst [102, 111, 114] r [] = (forsF r []).bind fun n ts ns => (lst ts ns).bind fun x ts ns => (needR wDone ts ns).bind fun _ ts ns => layR { n with kids := [x] } ts ns from rfl, bind_bind]
 congr 1; funext n ts ns
 rw [bind_bind]
 congr 1; funext x ts ns
 rw [bind_bind]
theorem core_case (lst : Rdr) (r : List Tok) : (coreS lst [99, 97, 115, 101] r []).bind Kq = (caseF lst r []).bind fun n ts ns => (layR n ts ns).bind Kq := by
 rw [show coreS lst [99, 97, 115, 101] r [] = (caseF lst r []).bind fun n ts ns => layR n ts ns from rfl, bind_bind]
theorem core_while (lst : Rdr) (k : Int) (s : List UInt8) (hs : (s = [119, 104, 105, 108, 101] ∧ k = 11) ∨ (s = [117, 110, 116, 105, 108] ∧ k = 12)) (r : List Tok) : (coreS lst s r []).bind Kq = (lst r []).bind fun x ts ns => (needR wDo ts ns).bind fun _ ts ns => (lst ts ns).bind fun y ts ns => (needR wDone ts ns).bind fun _ ts ns => (layR { kind := k, kids := [x, y] } ts ns).bind Kq := by
 have h : coreS lst s r [] = (lst r []).bind fun x ts ns => (needR wDo ts ns).bind fun _ ts ns => (lst ts ns).bind fun y ts ns => (needR wDone ts ns).bind fun _ ts ns => layR { kind := k, kids := [x, y] } ts ns := by
  rcases hs with ⟨rfl, rfl⟩ | ⟨rfl, rfl⟩ <;> rfl
 rw [h, bind_bind]
 congr 1; funext n ts ns
 rw [bind_bind]
 congr 1; funext x ts ns
 rw [bind_bind]
 congr 1; funext x ts ns
 rw [bind_bind]
theorem setRd_kb {ms : List Nd} (h : KB ms) (x : Int) (l : List Rd) : KB (setRd ms x l) := by
 intro y hy
 rw [setRd_len]
 obtain ⟨i, hi, rfl⟩ := List.mem_iff_getElem.1 hy
 have hi' : i < ms.length := by rw [setRd_len] at hi; exact hi
 have hk : ((setRd ms x l)[i]).kids = (ms[i]).kids := by
  simp only [setRd, List.getElem_modify]
  split <;> rfl
 rw [hk]
 exact h _ (List.getElem_mem hi')
set_option maxHeartbeats 16000000 in
theorem dcompound_any (n : Nat) (lst : Drd) (hd : DecD 2 lst) (he : EqvD lst) (Hp : Okn bNil 18 lst n) (rb : Nat) (T ts : List Tok) (d : Nat) (w : World) (h : DIs w rb T (.ok ts d)) (hn : ts.length ≤ n + 1) (hc : cmpH ts = true) :
  Calls Try.prog 67 #[.pointer (some ⟨rb, 0, none⟩)] w (NPost (vNd w) (bNd w) rb T d w (cmpF (coreF lst) d ts [])) := by
 have hany := list_any hd he Hp
 have HO := hide (dopen_any rb T ts d w h)
 have HRD := hide (fun W ts (hW : DIs W rb T (.ok ts d)) => dredirs_any rb T ts d W hW)
 have HNd := hide (fun W st s (hW : DIs W rb T st) => dneed_any rb T st s W hW)
 have HJ := hide (fun ps n a b r p vp W (hW : w.heap.size ≤ W.heap.size) hP hn hk hb ht hl => djoin_any (low w) ps n vp a b r p W (fun k hk => Nat.lt_of_lt_of_le hk hW) hP hn hk hb ht hl)
 have HRB := hide h.lb
 have HGD := hide h.good
 obtain ⟨t, r, rfl⟩ := h.good.1.ne
 have hk4 : t.k ≠ 4 := cmpH_k hc
 have HTT := hide (cmpB_tt (show cmpB t = true from hc))
 unfold Qu at HO HNd
 by_cases h24 : 24 < d
 ·have hR : cmpF (coreF lst) d (t :: r) [] = .bad t.a 17 := by
   rw [cmpF_eq]; unfold withinF; rw [if_pos h24]; rfl
  rw [show openD (.ok (t :: r) d) = .er t.a 17 from if_pos h24] at HO
  rw [hR]
  clear hR h hn hc hany hd he Hp hk4 h24
  go_enter Try.func67, Try.ntmps67
  go_wp2_with fail
  refine HO.out.mono ?_
  rintro e w1 ⟨rfl, h1, g1⟩
  have HS1 := hide h1
  have HG1 := hide g1
  clear h1 g1
  obtain ⟨vt, i, dd, h, hk0⟩ := HS1.out
  obtain ⟨c0, c1, c2, c3, c4⟩ := h.cells
  have lb := h.lb
  clear h hk0
  go_wp2_with fail
  go_ret
  exact ⟨_, rfl, ⟨[], vNd.nil w _⟩, HS1.out, HG1.out⟩
 rw [show openD (.ok (t :: r) d) = .ok (t :: r) (d + 1) from if_neg h24] at HO
 obtain ⟨R, hR⟩ : ∃ R, cmpF (coreF lst) d (t :: r) [] = R := ⟨_, rfl⟩
 rw [hR]
 have hRx : R = (coreS (lst (d + 1)) t.t r []).bind Kq := by
  rw [← hR, cmpF_eq]; unfold withinF; rw [if_neg h24]; unfold coreF; simp only [hk4, if_false]
 obtain ⟨d1, hd1⟩ : ∃ x, d + 1 = x := ⟨_, rfl⟩
 rw [hd1] at HO hRx
 have HD1 := hide hd1
 have HR := hide hRx
 have HP := hide (fun tot ps f st W hW hs => hany Int R rb T d1 tot ps f st W hW hs)
 have HIF := hide (fun F ts W hW h1 h2 => difs_ok n lst hd he hany F rb T d1 ts W hW h1 h2)
 have HID := hide (fun F => ifs_dec (hd d1) F)
 have HFO := hide (fun W hW => dfors_any rb T r d1 W hW)
 have HCA := hide (fun W hW h1 => dcases_any n lst hd he hany rb T r d1 W hW h1)
 have HGR := hide (And.intro (HGD.out.1.tail hk4) HGD.out.2.1.tail)
 have HLN := hide (show r.length ≤ n ∧ r.length + 1 ≤ 500 by have := HGD.out.2.2.2.1; simp only [List.length_cons] at this hn; omega)
 have HK4 := hide hk4
 have HTR := hide (fun x hx => HGD.out.2.2.1 x (List.mem_cons_of_mem _ hx))
 clear hR hRx hd1 h hn hc hany hd he Hp hk4 h24
 obtain ⟨tk, tt, ta⟩ := t
 simp only [] at HTT HR HK4
 go_enter Try.func67, Try.ntmps67
 go_wp2_with fail
 refine HO.out.mono ?_
 rintro e w1 ⟨rfl, h1, g1⟩
 have HS1 := hide h1
 have HG1 := hide g1
 clear h1 g1
 obtain ⟨vt, a, fr9, h, hd, hdd⟩ := HS1.out
 obtain ⟨c0, c1, c2, c3, c4⟩ := h.cells
 obtain ⟨g, off, cap, t9, r9, rfl, hc, hg, hd2, t0, t1, t2⟩ := h.tok_
 have lb := h.lb
 have hlt := h.lt
 have hib : (0 : Int) ≤ (a : Int) ∧ (a : Int) < ((T.length : Nat) : Int) := by omega
 have hTl := h.tg.len
 obtain ⟨LT, hL⟩ : ∃ LT, T.length = LT := ⟨_, rfl⟩
 have hAL : (a : Int) ≤ 500 := by omega
 have HDA := hide h
 have HDD := hide (And.intro hd hdd)
 have hZ := hd.symm.trans hd2
 injection hZ with hZ1 hZ2
 subst hZ1 hZ2
 rw [hL] at c0 hib hc hTl
 have z1 := Blk.frozen h.blk 1
 clear h hd hdd hd2 hL hlt
 simp only [] at t0 t1 t2
 go_upto_region 4 with (fail)
 have Hk : Hid (∀ X : World, w1.grownBy X none → (X.cell? ⟨rb, 0, none⟩ = some (.slice (some ⟨g, off, none⟩) LT cap) ∧ X.cell? ⟨rb, 1, none⟩ = some (.int .i64 a) ∧ X.cell? ⟨g, off + a * 3, none⟩ = some (.int .i64 tk) ∧ X.cell? ⟨g, off + a * 3 + 1, none⟩ = some (.string ⟨tt.toArray⟩) ∧ X.cell? ⟨g, off + a * 3 + 2, none⟩ = some (.int .i64 ta))) :=
  hide (fun X hw => ⟨old_cell hw lb c0, old_cell hw lb c1, old_cell hw hg t0, old_cell hw hg t1, old_cell hw hg t2⟩)
 go_region_held3 (fun X => X.cell? ⟨rb, 0, none⟩ = some (.slice (some ⟨g, off, none⟩) LT cap) ∧ X.cell? ⟨rb, 1, none⟩ = some (.int .i64 a) ∧ X.cell? ⟨g, off + a * 3, none⟩ = some (.int .i64 tk) ∧ X.cell? ⟨g, off + a * 3 + 1, none⟩ = some (.string ⟨tt.toArray⟩) ∧ X.cell? ⟨g, off + a * 3 + 2, none⟩ = some (.int .i64 ta))
  (first | go_keep | exact Hk.out _ (by repeat' (first | (with_reducible exact only_refl _ _) | (with_reducible refine none_setCell ?_ ?_ _) | (with_reducible refine none_trans ?_ hg) | (with_reducible refine only_drew ?_) | (with_reducible refine only_alloc ?_ _) | omega | (simp; done))))
  (fail)
 have hg3 := only_drew (only_alloc (only_refl w1 none) (.cells #[.int .i64 tk, .string ⟨tt.toArray⟩, .int .i64 ta] 41))
 have HB4 := hide (show Blk (w1.alloc (.cells #[.int .i64 tk, .string ⟨tt.toArray⟩, .int .i64 ta] 41)).drew w1.heap.size 41 #[.int .i64 tk, .string ⟨tt.toArray⟩, .int .i64 ta] from Blk.new w1 41 _)
 have HS3 := hide (HS1.out.grown hg3)
 have HG3 := hide (only_trans HG1.out (gr_rb hg3))
 have HB4w := hide HG1.out.size
 generalize (w1.alloc (.cells #[.int .i64 tk, .string ⟨tt.toArray⟩, .int .i64 ta] 41)).drew = W3, w1.heap.size = B4 at HB4 HS3 HG3 HB4w ⊢
 clear Hk hg3
 clear c0 c1 c2 c3 c4 t0 t1 t2 hg lb hib hTl hAL hc z1
 obtain ⟨vt, a, fr9, h, hdd, hd26⟩ := HS3.out
 obtain ⟨c0, c1, c2, c3, c4⟩ := h.cells
 have lb := h.lb
 have z1 := Blk.frozen h.blk 1
 have hal : (a : Int) ≤ 500 := by have := h.lt; have := h.tg.len; omega
 have hnx := DIs.next h hdd hd26 rfl HK4.out
 clear h hdd hd26
 go_upto_region 7 with (fail)
 have hb4 := Blk.far HB4.out (p := ⟨rb, 1, none⟩) (show B4 ≠ rb by have := HRB.out; have := HB4w.out; omega) (.int .i64 ((a : Int) + 1))
 have hg5 := only_setCell HG3.out (p := ⟨rb, 1, none⟩) (.inl rfl) (.int .i64 ((a : Int) + 1))
 generalize W3.setCell ⟨rb, 1, none⟩ (.int .i64 ((a : Int) + 1)) = W5 at hb4 hg5 hnx ⊢
 have HB5 := hide hb4
 have HS5 := hide hnx
 have HG5 := hide hg5
 clear hb4 hnx hg5 c0 c1 c2 c3 c4 lb z1 hal
 go_upto_region 8 with (fail)
 have HB4 := hide (HB5.out.alloc (.cells #[.int .i64 0, .string ⟨#[]⟩, .bool false, .slice none 0 0, .slice none 0 0, .slice none 0 0, .slice none 0 0, .slice none 0 0] 33))
 have HB7 := hide (Blk.new W5 33 #[.int .i64 0, .string ⟨#[]⟩, .bool false, .slice none 0 0, .slice none 0 0, .slice none 0 0, .slice none 0 0, .slice none 0 0])
 have HS7 := hide (HS5.out.grown (only_alloc (only_refl W5 none) (.cells #[.int .i64 0, .string ⟨#[]⟩, .bool false, .slice none 0 0, .slice none 0 0, .slice none 0 0, .slice none 0 0, .slice none 0 0] 33)))
 have HG7 := hide (only_alloc HG5.out (.cells #[.int .i64 0, .string ⟨#[]⟩, .bool false, .slice none 0 0, .slice none 0 0, .slice none 0 0, .slice none 0 0, .slice none 0 0] 33))
 have HBw := hide HG5.out.size
 have HBx := hide (Blk.lt HB5.out)
 generalize W5.alloc (.cells #[.int .i64 0, .string ⟨#[]⟩, .bool false, .slice none 0 0, .slice none 0 0, .slice none 0 0, .slice none 0 0, .slice none 0 0] 33) = W7, W5.heap.size = B at HB4 HB7 HS7 HG7 HBw HBx ⊢
 have HrB := hide (Nat.lt_of_lt_of_le HRB.out HBw.out)
 have HB4B := hide (show B4 ≠ B from fun e => by have := HBx.out; omega)
 have x1 : W7.cell? ⟨B4, 1, none⟩ = some (.string ⟨tt.toArray⟩) := Blk.cell HB4.out 1
 have lx := Blk.lt HB4.out
 have y0 : W7.cell? ⟨B, 0, none⟩ = some (.int .i64 0) := Blk.cell HB7.out 0
 have zB := Blk.frozen HB7.out 0
 have lB := Blk.lt HB7.out
 go_upto_block 0 with (fail)
 go_cut [4] (fun v4 wx => ∃ (n0 : Nd) (va vb vp : Value) (ps : List (List Nd)) (st : DS), n0.kids = [] ∧ CmD w wx rb T st B n0 va vb vp v4 ps ∧ Sim R d1 n (sumL ps) (Lq n0 ps) st)
 case rest =>
  obtain ⟨n0, va, vb, vp, ps, st, hk0, hC, hS⟩ := hcut
  obtain ⟨pp, pq, rfl⟩ := hC.form
  obtain ⟨a1, a2, a3, b1, b2, b3, r1, r2, r3, p1, p2, p3, k1, k3, rfl, rfl, -, rfl, -⟩ := ndForms hC.nd
  have HC := hide hC
  have HS := hide hS
  have HK0 := hide hk0
  clear hC hS hk0 x1 lx y0 zB lB
  cases st with
  | er ea ek =>
   have HRE := hide (show R = .bad ea ek from HS.out)
   obtain ⟨vt, i, dd, h, hk0⟩ := HC.out.st
   obtain ⟨c0, c1, c2, c3, c4⟩ := h.cells
   have lb := h.lb
   have qk2 : (ek != 0) = true := bne_iff_ne.2 hk0
   clear h hk0
   go_wp2_with fail
   rw [HRE.out]
   go_ret
   exact ⟨_, rfl, ⟨[], vNd.nil w _⟩, HC.out.st, HC.out.gr⟩
  | ok Z d2 =>
   obtain ⟨hd2, hRZ, hfew, hZn, hZg, hZw⟩ := HS.out
   subst hd2
   have HRZ := hide hRZ
   have HZG := hide hZg
   have HSL := hide (show sumL ps ≤ 5000 by omega)
   obtain ⟨vt, a, fr9, h, hdd, hd26⟩ := HC.out.st
   obtain ⟨c0, c1, c2, c3, c4⟩ := h.cells
   have lb := h.lb
   have z2 := Blk.frozen h.blk 2
   have hnx := DIs.setDeep h hdd HD1.out hd26
   have hd3 : (d2 : Int) ≤ 26 := by omega
   have hd4 : (1 : Int) ≤ (d2 : Int) := by have := HD1.out; omega
   have HC3 := hide (HC.out.step (only_setCell (only_refl wc (some rb)) (p := ⟨rb, 2, none⟩) (.inl rfl) (.int .i64 ((d2 : Int) - 1))) hnx)
   clear h hdd hd26 hRZ hfew hZn hZg hZw hnx
   go_upto_region 42 with (fail)
   generalize wc.setCell ⟨rb, 2, none⟩ (.int .i64 ((d2 : Int) - 1)) = W9 at HC3 ⊢
   clear c0 c1 c2 c3 c4 lb z2 hd3 hd4
   have HQ9 := hide (HRD.out W9 Z HC3.out.st)
   obtain ⟨PQ, hpq⟩ : ∃ P, redirF Z [] = P := ⟨_, rfl⟩
   rw [hpq] at HQ9
   have HPQ := hide hpq
   clear hpq
   go_wp2_with fail
   refine HQ9.out.mono ?_
   intro e w4 hp4
   obtain ⟨v, l, st4, rfl, hv4, h4, g4, hk4⟩ := rd_any hp4
   obtain ⟨l1, l3, rfl, _, _⟩ := Own.form hv4.1
   have HC4 := hide (HC3.out.step g4 h4)
   have HK4 := hide hk4
   have HX := hide (HC4.out.setR hv4.1 (fun k hk => Nat.le_trans HC3.out.gr.size (hv4.2.1 k hk)))
   clear hp4 hv4 h4 g4 hk4
   obtain ⟨x0, x1, x2, x3, x4, x5, x6, x7, lB⟩ := box8 HC4.out.box
   have zB := Blk.frozen HC4.out.box 5
   go_upto_region 43 with (fail)
   generalize w4.setCell ⟨B, 5, none⟩ (.slice l1 l.length l3) = W5 at HX ⊢
   clear x0 x1 x2 x3 x4 x5 x6 x7 lB zB
   obtain ⟨hx1, hx2, hx3, hx4, hx5⟩ := HX.out
   have HS5 := hide hx1
   have HG5 := hide hx5
   obtain ⟨x0, x1, x2, x3, x4, x5, x6, x7, lB⟩ := box8 hx2
   have HJ5 := hide (HJ.out ps { n0 with redirs := l } _ _ _ _ _ W5 HG5.out.size hx4 hx3 HK0.out HC4.out.kb (by have := HC4.out.cnt.1; omega) (by have := HC4.out.cnt.2; omega))
   unfold JPost ndCells sv at HJ5
   simp only [] at HJ5
   have HJK := hide (joinR_kb (ps := ps) (n := { n0 with redirs := l }) HC4.out.kb (by have := HC4.out.cnt.2; omega) HK0.out)
   have HJL := hide (show (joinR ps { n0 with redirs := l }).length ≤ 50000 by rw [joinR_len]; have := HSL.out; omega)
   clear hx1 hx2 hx3 hx4 hx5
   go_wp2_with fail
   refine HJ5.out.mono ?_
   rintro e wz ⟨v, rfl, hnz, hnew, gz⟩
   obtain ⟨y1, y2, rfl, _⟩ := hnz.form
   have HNZ := hide (show vNd w wz (joinR ps { n0 with redirs := l }) (.slice y1 (joinR ps { n0 with redirs := l }).length y2) from ⟨hnz, HJK.out, HJL.out, fun g hg => Nat.le_trans HG5.out.size (hnew g hg)⟩)
   have HSZ := hide (HS5.out.grown gz)
   have HGZ := hide (only_trans HG5.out (gr_rb gz))
   clear hnz hnew gz
   go_wp2_with fail
   cases st4 with
   | er ea ek =>
    have hq : PQ = .bad ea ek := HK4.out
    rw [show R = .bad ea ek from HRZ.out.trans (Lq_bad (HPQ.out.trans hq))]
    go_ret
    exact ⟨_, rfl, ⟨_, HNZ.out⟩, HSZ.out, HGZ.out⟩
   | ok Z3 d3 =>
    obtain ⟨hd3, ns3, hq⟩ := HK4.out
    subst hd3
    rw [show R = .ok _ Z3 (joinR ps { n0 with redirs := l }) from HRZ.out.trans (Lq_ok HK0.out HZG.out (HPQ.out.trans hq))]
    go_ret
    exact ⟨_, rfl, HNZ.out, HSZ.out, HGZ.out⟩
 case first =>
  rcases HTT.out with rfl | rfl | rfl | rfl | rfl | rfl | rfl
  ·go_upto_region 16 with (fail)
   have hb8 := Blk.set_ HB7.out 0 (.int .i64 9)
   have hs8 := HS7.out.fresh HrB.out 0 (.int .i64 9)
   have hg8 := only_setCell HG7.out (p := ⟨B, 0, none⟩) (.inr HBw.out) (.int .i64 9)
   have hx8 := Blk.far HB4.out (p := ⟨B, 0, none⟩) HB4B.out (.int .i64 9)
   generalize W7.setCell ⟨B, 0, none⟩ (.int .i64 9) = W8 at hb8 hs8 hg8 hx8 ⊢
   have HB8 : Hid (Blk W8 B 33 #[.int .i64 ({ kind := 9 } : Nd).kind, .string ⟨({ kind := 9 } : Nd).name.toArray⟩, .bool ({ kind := 9 } : Nd).inn, .slice none 0 0, .slice none 0 0, .slice none 0 0, .slice none 0 0, .slice none 0 0]) := hide hb8
   have HS8 := hide hs8
   have HG8 := hide hg8
   have HB4 := hide hx8
   have HND8 := hide (nd0_at (av := low w) (w := W8) 9)
   clear hb8 hs8 hg8 hx8 x1 lx y0 zB lB
   have hs0 : Sim R d1 n 0 (fun Z => (lst d1 Z (joinP []).1).bind fun x ts ns => (needR sRap ts ns).bind fun _ ts ns => (layR { kind := 9, kids := [x] } ts ns).bind Kq) (.ok r d1) := ⟨rfl, HR.out.trans (core_par _ _), by have := HLN.out; omega, by have := HLN.out; omega, HGR.out.1, HGR.out.2⟩
   have HL1 := hide (HP.out 0 [] _ _ W8 HS8.out hs0)
   clear hs0
   go_wp2_with fail
   refine HL1.out.mono ?_
   rintro e w2 ⟨v1, m1, st1, rfl, hv1, hs1, g1, hsim1, hne1, hml1, hlt1, her1⟩
   obtain ⟨p1, q1, rfl⟩ := hv1.form
   have HV1 := hide hv1
   have HN1 := hide (And.intro hne1 hml1)
   have HSA := hide (hs1.grown (only_alloc (only_refl w2 none) (.cells #[.slice p1 m1.length q1] 23)))
   have HPA := hide (parts1N (w0 := W8) hv1.1 hv1.2.2.2)
   have HGA := hide (only_alloc g1 (.cells #[.slice p1 m1.length q1] 23))
   have HM1 := hide (show Sim R d1 n (0 + m1.length) _ (needD sRap st1) from Sim.need hsim1)
   obtain ⟨st2, hst2⟩ : ∃ s, needD sRap st1 = s := ⟨_, rfl⟩
   rw [hst2] at HM1
   have HST2 := hide hst2
   clear hv1 hs1 g1 hsim1 hne1 hml1 hlt1 her1 hst2
   go_upto_region 17 with (fail)
   generalize w2.alloc (.cells #[.slice p1 m1.length q1] 23) = w3, w2.heap.size = pb at HPA HSA HGA ⊢
   have HNf := hide (HNd.out w3 st1 sRap HSA.out)
   rw [HST2.out] at HNf
   unfold sRap sv at HNf
   go_wp2_with fail
   refine HNf.out.mono ?_
   rintro e w4 ⟨rfl, h4, g4⟩
   have HC := hide (CmD.of HB8.out HBw.out HND8.out HG8.out HRB.out HS8.out.hasT (only_trans HGA.out g4) h4 (HPA.out.drb g4 HSA.out.hasT) (fun m hm => by rw [List.mem_singleton] at hm; subst hm; exact HV1.out.2.1) (by have := HN1.out.2; simp [sumL]; omega))
   have HSM := hide (show Sim R d1 n (sumL [m1]) (Lq ({ kind := 9 }) [m1]) st2 from by
    have h5 := HM1.out
    rw [Nat.zero_add] at h5
    refine (show Sim R d1 n (sumL [m1]) _ st2 by simpa [sumL] using h5).cong fun Z d2 e => ?_
    obtain ⟨Z2, e2⟩ := need_ok_of (HST2.out.trans e)
    show (layR _ Z _).bind Kq = (layR _ Z _).bind Kq
    rw [joinP1 (HN1.out.1 Z2 d2 e2)]
    rfl)
   clear h4 g4
   go_wp2_with fail
   go_meet
   exact ⟨_, _, _, _, [m1], st2, rfl, HC.out, HSM.out⟩
  ·go_upto_region 12 with (fail)
   have hb8 := Blk.set_ HB7.out 0 (.int .i64 8)
   have hs8 := HS7.out.fresh HrB.out 0 (.int .i64 8)
   have hg8 := only_setCell HG7.out (p := ⟨B, 0, none⟩) (.inr HBw.out) (.int .i64 8)
   have hx8 := Blk.far HB4.out (p := ⟨B, 0, none⟩) HB4B.out (.int .i64 8)
   generalize W7.setCell ⟨B, 0, none⟩ (.int .i64 8) = W8 at hb8 hs8 hg8 hx8 ⊢
   have HB8 : Hid (Blk W8 B 33 #[.int .i64 ({ kind := 8 } : Nd).kind, .string ⟨({ kind := 8 } : Nd).name.toArray⟩, .bool ({ kind := 8 } : Nd).inn, .slice none 0 0, .slice none 0 0, .slice none 0 0, .slice none 0 0, .slice none 0 0]) := hide hb8
   have HS8 := hide hs8
   have HG8 := hide hg8
   have HB4 := hide hx8
   have HND8 := hide (nd0_at (av := low w) (w := W8) 8)
   clear hb8 hs8 hg8 hx8 x1 lx y0 zB lB
   have hs0 : Sim R d1 n 0 (fun Z => (lst d1 Z (joinP []).1).bind fun x ts ns => (needR wClose ts ns).bind fun _ ts ns => (layR { kind := 8, kids := [x] } ts ns).bind Kq) (.ok r d1) := ⟨rfl, HR.out.trans (core_open _ _), by have := HLN.out; omega, by have := HLN.out; omega, HGR.out.1, HGR.out.2⟩
   have HL1 := hide (HP.out 0 [] _ _ W8 HS8.out hs0)
   clear hs0
   go_wp2_with fail
   refine HL1.out.mono ?_
   rintro e w2 ⟨v1, m1, st1, rfl, hv1, hs1, g1, hsim1, hne1, hml1, hlt1, her1⟩
   obtain ⟨p1, q1, rfl⟩ := hv1.form
   have HV1 := hide hv1
   have HN1 := hide (And.intro hne1 hml1)
   have HSA := hide (hs1.grown (only_alloc (only_refl w2 none) (.cells #[.slice p1 m1.length q1] 23)))
   have HPA := hide (parts1N (w0 := W8) hv1.1 hv1.2.2.2)
   have HGA := hide (only_alloc g1 (.cells #[.slice p1 m1.length q1] 23))
   have HM1 := hide (show Sim R d1 n (0 + m1.length) _ (needD wClose st1) from Sim.need hsim1)
   obtain ⟨st2, hst2⟩ : ∃ s, needD wClose st1 = s := ⟨_, rfl⟩
   rw [hst2] at HM1
   have HST2 := hide hst2
   clear hv1 hs1 g1 hsim1 hne1 hml1 hlt1 her1 hst2
   go_upto_region 13 with (fail)
   generalize w2.alloc (.cells #[.slice p1 m1.length q1] 23) = w3, w2.heap.size = pb at HPA HSA HGA ⊢
   have HNf := hide (HNd.out w3 st1 wClose HSA.out)
   rw [HST2.out] at HNf
   unfold wClose sv at HNf
   go_wp2_with fail
   refine HNf.out.mono ?_
   rintro e w4 ⟨rfl, h4, g4⟩
   have HC := hide (CmD.of HB8.out HBw.out HND8.out HG8.out HRB.out HS8.out.hasT (only_trans HGA.out g4) h4 (HPA.out.drb g4 HSA.out.hasT) (fun m hm => by rw [List.mem_singleton] at hm; subst hm; exact HV1.out.2.1) (by have := HN1.out.2; simp [sumL]; omega))
   have HSM := hide (show Sim R d1 n (sumL [m1]) (Lq ({ kind := 8 }) [m1]) st2 from by
    have h5 := HM1.out
    rw [Nat.zero_add] at h5
    refine (show Sim R d1 n (sumL [m1]) _ st2 by simpa [sumL] using h5).cong fun Z d2 e => ?_
    obtain ⟨Z2, e2⟩ := need_ok_of (HST2.out.trans e)
    show (layR _ Z _).bind Kq = (layR _ Z _).bind Kq
    rw [joinP1 (HN1.out.1 Z2 d2 e2)]
    rfl)
   clear h4 g4
   go_wp2_with fail
   go_meet
   exact ⟨_, _, _, _, [m1], st2, rfl, HC.out, HSM.out⟩
  ·clear y0 zB lB
   have HFq := hide (HIF.out (r.length + 1) r W7 HS7.out HLN.out.1 (Nat.lt_succ_self _))
   obtain ⟨PQ, hpq⟩ : ∃ P, ifsF (lst d1) (r.length + 1) r [] = P := ⟨_, rfl⟩
   rw [hpq] at HFq
   have HPQ := hide hpq
   have HRI := hide (show R = PQ.bind Kq from (HR.out.trans (core_if _ _)).trans (by rw [hpq]))
   clear hpq
   go_wp2_with fail
   refine HFq.out.mono ?_
   cases PQ with
   | bad ea ek =>
    rintro e w2 ⟨v, rfl, rfl, h2, g2⟩
    have HRE := hide (show R = .bad ea ek from HRI.out)
    have HS2 := hide h2
    have HG2 := hide (only_trans HG7.out g2)
    clear h2 g2 x1 lx
    obtain ⟨vt, i, dd, h, hk0⟩ := HS2.out
    obtain ⟨c0, c1, c2, c3, c4⟩ := h.cells
    have lb := h.lb
    have qk2 : (ek != 0) = true := bne_iff_ne.2 hk0
    clear h hk0
    go_wp2_with fail
    rw [HRE.out]
    go_ret
    exact ⟨_, rfl, ⟨[], vNd.nil w _⟩, HS2.out, HG2.out⟩
   | ok x Z ms =>
    rintro e w2 ⟨v, rfl, hv2, h2, g2⟩
    have hl := HID.out _ _ _ _ _ _ HGR.out.1 HPQ.out
    obtain ⟨l1, l2, l3, l4⟩ := hl.ne
    obtain ⟨y1, y2, rfl⟩ := hv2.form
    have HZG := hide hl.good
    have HX2 := hide l2
    have HX3 := hide l3
    have HG2 := hide (only_trans HG7.out g2)
    have HS2 := hide h2
    have HV2 := hide hv2
    have HML := hide hv2.2.2.1
    clear hl l1 l2 l3 l4 hv2 h2 g2 x1 lx
    obtain ⟨vt, a, fr9, h, hdd, hd26⟩ := HS2.out
    obtain ⟨c0, c1, c2, c3, c4⟩ := h.cells
    have lb := h.lb
    have z2 := Blk.frozen h.blk 2
    have hnx := DIs.setDeep h hdd HD1.out hd26
    have hd3 : (d1 : Int) ≤ 26 := by omega
    have hd4 : (1 : Int) ≤ (d1 : Int) := by have := HD1.out; omega
    have hg9 := only_setCell (only_refl w2 (some rb)) (p := ⟨rb, 2, none⟩) (.inl rfl) (.int .i64 ((d1 : Int) - 1))
    have HV9 := hide (HV2.out.rb hg9 HS2.out.hasT)
    have HG9 := hide (only_trans HG2.out hg9)
    clear h hdd hd26 hg9
    go_upto_region 23 with (fail)
    generalize w2.setCell ⟨rb, 2, none⟩ (.int .i64 ((d1 : Int) - 1)) = W9 at hnx HV9 HG9 ⊢
    have HS9 := hide hnx
    clear c0 c1 c2 c3 c4 lb z2 hd3 hd4 hnx
    have HQ9 := hide (HRD.out W9 Z HS9.out)
    obtain ⟨PR2, hp2⟩ : ∃ P, redirF Z [] = P := ⟨_, rfl⟩
    rw [hp2] at HQ9
    have HP2 := hide hp2
    clear hp2
    obtain ⟨L, hL⟩ : ∃ L, ms.length = L := ⟨_, rfl⟩
    obtain ⟨m, rfl⟩ : ∃ m, L = m + 1 := ⟨L - 1, by have := HX3.out; omega⟩
    have HLm := hide hL
    rw [hL] at HV9 ⊢
    have hm1 : (m : Int) ≤ 50000 := by have := HML.out; omega
    clear hL
    go_wp2_with fail
    refine HQ9.out.mono ?_
    intro e w4 hp4
    obtain ⟨v, l, st4, rfl, hv4, h4, g4, hk4⟩ := rd_any hp4
    obtain ⟨r1, r3, rfl, _, _⟩ := Own.form hv4.1
    have hv5 := HV9.out.rb g4 HS9.out.hasT
    have HG4 := hide (only_trans HG9.out g4)
    have HK4 := hide hk4
    obtain ⟨g, off, cap, a9, b9, r9, p9, k9, hv, hg, hnd, u0, u1, u2, u3, u4, u5, u6, u7⟩ := hv5.1.at_ m (by rw [HLm.out]; omega)
    rw [HLm.out] at hv
    injection hv with hv1 hv2 hv3
    subst hv1 hv3
    have zf : w4.frozen? ⟨g, off + m * 8 + 5, none⟩ = false := by
     obtain ⟨cs9, h9, _⟩ := hv5.1
     rw [HLm.out] at h9
     have := Own.frozen0 h9 (m * 8 + 5)
     rw [← Nat.add_assoc] at this
     exact this
    have HS4 := hide h4
    have hv6 : vNd w w4 ms (.slice (some ⟨g, off, none⟩) ms.length y2) := by rw [HLm.out]; exact hv5.low HG7.out.size
    have hgn : w.heap.size ≤ g := hv6.2.2.2 g rfl
    have hX := And.intro (hv6.1.setRd_ (m := m) (by rw [HLm.out]; omega) hv4.1 (fun k hk e => by have := hv4.2.1 k hk; have := HG9.out.size; unfold low at e; omega)) (And.intro (h4.fresh (Nat.lt_of_lt_of_le HRB.out hgn) (off + m * 8 + 5) (.slice r1 l.length r3)) (only_setCell HG4.out (p := ⟨g, off + m * 8 + 5, none⟩) (.inr hgn) (.slice r1 l.length r3)))
    have HVK := hide (And.intro hv6.2.1 (And.intro hv6.2.2.1 hgn))
    clear hp4 h4 g4 hk4 hnd hv4 hv5 hv6 u0 u1 u2 u3 u4 u6 u7
    have hib : (0 : Int) ≤ ((m + 1 : Nat) : Int) - 1 ∧ ((m + 1 : Nat) : Int) - 1 < ((m + 1 : Nat) : Int) := by omega
    have hmx : x = (m : Int) := by have := HX2.out; rw [HLm.out] at this; omega
    subst hmx
    go_wp2_with fail
    generalize w4.setCell ⟨g, off + m * 8 + 5, none⟩ (.slice r1 l.length r3) = W5 at hX ⊢
    have HX := hide hX
    clear hX u5 zf hib hm1
    have HNZ := hide (show vNd w W5 (setRd ms (m : Int) l) (.slice (some ⟨g, off, none⟩) (m + 1) y2) from ⟨by have := HX.out.1; rw [HLm.out] at this; exact this, setRd_kb HVK.out.1 _ _, by rw [setRd_len]; exact HVK.out.2.1, fun k hk => by injection hk with hk; subst hk; exact HVK.out.2.2⟩)
    cases st4 with
    | er ea ek =>
     have hq : PR2 = .bad ea ek := HK4.out
     rw [show R = .bad ea ek from HRI.out.trans (Kq_bad (HP2.out.trans hq))]
     go_ret
     exact ⟨_, rfl, ⟨_, HNZ.out⟩, HX.out.2.1, HX.out.2.2⟩
    | ok Z3 d3 =>
     obtain ⟨hd3, ns3, hq⟩ := HK4.out
     subst hd3
     rw [show R = .ok _ Z3 (setRd ms (m : Int) l) from HRI.out.trans (Kq_ok HZG.out (HP2.out.trans hq))]
     go_ret
     exact ⟨_, rfl, HNZ.out, HX.out.2.1, HX.out.2.2⟩
  ·go_upto_region 28 with (fail)
   have hb8 := Blk.set_ HB7.out 0 (.int .i64 11)
   have hs8 := HS7.out.fresh HrB.out 0 (.int .i64 11)
   have hg8 := only_setCell HG7.out (p := ⟨B, 0, none⟩) (.inr HBw.out) (.int .i64 11)
   have hx8 := Blk.far HB4.out (p := ⟨B, 0, none⟩) HB4B.out (.int .i64 11)
   generalize W7.setCell ⟨B, 0, none⟩ (.int .i64 11) = W8 at hb8 hs8 hg8 hx8 ⊢
   have HB8 : Hid (Blk W8 B 33 #[.int .i64 ({ kind := 11 } : Nd).kind, .string ⟨({ kind := 11 } : Nd).name.toArray⟩, .bool ({ kind := 11 } : Nd).inn, .slice none 0 0, .slice none 0 0, .slice none 0 0, .slice none 0 0, .slice none 0 0]) := hide hb8
   have HS8 := hide hs8
   have HG8 := hide hg8
   have HB4 := hide hx8
   have HND8 := hide (nd0_at (av := low w) (w := W8) 11)
   clear hb8 hs8 hg8 hx8 x1 lx y0 zB lB
   have x1 : W8.cell? ⟨B4, 1, none⟩ = some (.string ⟨[119, 104, 105, 108, 101].toArray⟩) := Blk.cell HB4.out 1
   have lx := Blk.lt HB4.out
   go_upto_region 30 with (fail)
   clear x1 lx
   have hs0 : Sim R d1 n 0 (fun Z => (lst d1 Z (joinP []).1).bind fun x ts ns => (needR wDo ts ns).bind fun _ ts ns => (lst d1 ts ns).bind fun y ts ns => (needR wDone ts ns).bind fun _ ts ns => (layR { kind := 11, kids := [x, y] } ts ns).bind Kq) (.ok r d1) := ⟨rfl, HR.out.trans (core_while _ 11 _ (.inl ⟨rfl, rfl⟩) _), by have := HLN.out; omega, by have := HLN.out; omega, HGR.out.1, HGR.out.2⟩
   have HL1 := hide (HP.out 0 [] _ _ W8 HS8.out hs0)
   clear hs0
   go_wp2_with fail
   refine HL1.out.mono ?_
   rintro e w2 ⟨v1, m1, st1, rfl, hv1, hs1, g1, hsim1, hne1, hml1, hlt1, her1⟩
   obtain ⟨p1, q1, rfl⟩ := hv1.form
   have HV1 := hide hv1
   have HS1 := hide hs1
   have HG1 := hide g1
   have HN1 := hide (And.intro hne1 hml1)
   have HM1 := hide (show Sim R d1 n (0 + m1.length) _ (needD wDo st1) from Sim.need hsim1)
   obtain ⟨st2, hst2⟩ : ∃ s, needD wDo st1 = s := ⟨_, rfl⟩
   have HNf := hide (HNd.out w2 st1 wDo hs1)
   rw [hst2] at HM1 HNf
   have HST2 := hide hst2
   unfold wDo sv at HNf
   clear hv1 hs1 g1 hsim1 hne1 hml1 hlt1 her1 hst2
   go_wp2_with fail
   refine HNf.out.mono ?_
   rintro e w3 ⟨rfl, h3, g3⟩
   have HV3 := hide (HV1.out.rb g3 HS1.out.hasT)
   have HG3b := hide (only_trans HG1.out g3)
   have HS3b := hide h3
   have HL2 := hide (HP.out (0 + m1.length) ([] ++ [m1]) _ st2 w3 h3 HM1.out)
   clear h3 g3
   go_wp2_with fail
   refine HL2.out.mono ?_
   rintro e w5 ⟨v2, m2, st3, rfl, hv2, hs3, g5, hsim3, hne2, hml2, hlt2, her2⟩
   obtain ⟨p2, q2, rfl⟩ := hv2.form
   have HV5 := hide (HV3.out.rb g5 HS3b.out.hasT)
   have HV2 := hide (hv2.low HG3b.out.size)
   have HG5b := hide (only_trans HG3b.out g5)
   have HS5b := hide hs3
   have HN2 := hide (And.intro hne2 (And.intro hml2 her2))
   have HM3 := hide (show Sim R d1 n (0 + m1.length + m2.length) _ (needD wDone st3) from Sim.need hsim3)
   obtain ⟨st4, hst4⟩ : ∃ s, needD wDone st3 = s := ⟨_, rfl⟩
   have HNf2 := hide (HNd.out w5 st3 wDone hs3)
   rw [hst4] at HM3 HNf2
   have HST4 := hide hst4
   unfold wDone sv at HNf2
   clear hv2 hs3 g5 hsim3 hne2 hml2 hlt2 her2 hst4
   go_wp2_with fail
   refine HNf2.out.mono ?_
   rintro e w6 ⟨rfl, h6, g6⟩
   have HV6 := hide (HV5.out.rb g6 HS5b.out.hasT)
   have HV7 := hide (HV2.out.rb g6 HS5b.out.hasT)
   have HC := hide (CmD.of HB8.out HBw.out HND8.out HG8.out HRB.out HS8.out.hasT (only_alloc (only_trans HG5b.out g6) (.cells #[.slice p1 m1.length q1, .slice p2 m2.length q2] 23)) (h6.grown (only_alloc (only_refl w6 none) _)) (parts2N (w0 := W8) HV6.out.1 HV7.out.1 HV6.out.2.2.2 HV7.out.2.2.2) (fun m hm => by
    rcases List.mem_cons.1 hm with rfl | hm
    ·exact HV6.out.2.1
    ·rw [List.mem_singleton] at hm; subst hm; exact HV7.out.2.1) (by have := HN1.out.2; have := HN2.out.2.1; simp [sumL]; omega))
   have HSM := hide (show Sim R d1 n (sumL [m1, m2]) (Lq { kind := 11 } [m1, m2]) st4 from by
    have h5 := HM3.out
    rw [Nat.zero_add] at h5
    refine (show Sim R d1 n (sumL [m1, m2]) _ st4 by simpa [sumL] using h5).cong fun Z d2 e => ?_
    obtain ⟨Z2, e2⟩ := need_ok_of (HST4.out.trans e)
    have hm2 := HN2.out.1 Z2 d2 e2
    have hm1 : m1 ≠ [] := by
     cases hst : st2 with
     | er a k => have := HN2.out.2.2 a k hst; rw [this] at e2; cases e2
     | ok Z3 d3 =>
      obtain ⟨Z4, e4⟩ := need_ok_of (HST2.out.trans hst)
      exact HN1.out.1 Z4 d3 e4
    show (layR _ Z _).bind Kq = (layR _ Z _).bind Kq
    rw [joinP2 hm1 hm2]
    rfl)
   clear h6 g6
   go_wp2_with fail
   go_meet
   exact ⟨_, _, _, _, [m1, m2], st4, rfl, HC.out, HSM.out⟩
  ·go_upto_region 28 with (fail)
   have hb8 := Blk.set_ HB7.out 0 (.int .i64 11)
   have hs8 := HS7.out.fresh HrB.out 0 (.int .i64 11)
   have hg8 := only_setCell HG7.out (p := ⟨B, 0, none⟩) (.inr HBw.out) (.int .i64 11)
   have hx8 := Blk.far HB4.out (p := ⟨B, 0, none⟩) HB4B.out (.int .i64 11)
   generalize W7.setCell ⟨B, 0, none⟩ (.int .i64 11) = W8a at hb8 hs8 hg8 hx8 ⊢
   have HB8a : Hid (Blk W8a B 33 #[.int .i64 ({ kind := 11 } : Nd).kind, .string ⟨({ kind := 11 } : Nd).name.toArray⟩, .bool ({ kind := 11 } : Nd).inn, .slice none 0 0, .slice none 0 0, .slice none 0 0, .slice none 0 0, .slice none 0 0]) := hide hb8
   have HS8a := hide hs8
   have HG8a := hide hg8
   have HB4 := hide hx8
   have HND8 := hide (nd0_at (av := low w) (w := W8a) 11)
   clear hb8 hs8 hg8 hx8 x1 lx y0 zB lB
   have x1 : W8a.cell? ⟨B4, 1, none⟩ = some (.string ⟨[117, 110, 116, 105, 108].toArray⟩) := Blk.cell HB4.out 1
   have lx := Blk.lt HB4.out
   have y0 : W8a.cell? ⟨B, 0, none⟩ = some (.int .i64 11) := Blk.cell HB8a.out 0
   have zB := Blk.frozen HB8a.out 0
   have lB := Blk.lt HB8a.out
   clear HND8
   go_upto_region 30 with (fail)
   have hb8 := Blk.set_ HB8a.out 0 (.int .i64 12)
   have hs8 := HS8a.out.fresh HrB.out 0 (.int .i64 12)
   have hg8 := only_setCell HG8a.out (p := ⟨B, 0, none⟩) (.inr HBw.out) (.int .i64 12)
   have hx8 := Blk.far HB4.out (p := ⟨B, 0, none⟩) HB4B.out (.int .i64 12)
   generalize W8a.setCell ⟨B, 0, none⟩ (.int .i64 12) = W8 at hb8 hs8 hg8 hx8 ⊢
   have HB8 : Hid (Blk W8 B 33 #[.int .i64 ({ kind := 12 } : Nd).kind, .string ⟨({ kind := 12 } : Nd).name.toArray⟩, .bool ({ kind := 12 } : Nd).inn, .slice none 0 0, .slice none 0 0, .slice none 0 0, .slice none 0 0, .slice none 0 0]) := hide hb8
   have HS8 := hide hs8
   have HG8 := hide hg8
   have HB4 := hide hx8
   have HND8 := hide (nd0_at (av := low w) (w := W8) 12)
   clear hb8 hs8 hg8 hx8 x1 lx y0 zB lB
   have hs0 : Sim R d1 n 0 (fun Z => (lst d1 Z (joinP []).1).bind fun x ts ns => (needR wDo ts ns).bind fun _ ts ns => (lst d1 ts ns).bind fun y ts ns => (needR wDone ts ns).bind fun _ ts ns => (layR { kind := 12, kids := [x, y] } ts ns).bind Kq) (.ok r d1) := ⟨rfl, HR.out.trans (core_while _ 12 _ (.inr ⟨rfl, rfl⟩) _), by have := HLN.out; omega, by have := HLN.out; omega, HGR.out.1, HGR.out.2⟩
   have HL1 := hide (HP.out 0 [] _ _ W8 HS8.out hs0)
   clear hs0
   go_wp2_with fail
   refine HL1.out.mono ?_
   rintro e w2 ⟨v1, m1, st1, rfl, hv1, hs1, g1, hsim1, hne1, hml1, hlt1, her1⟩
   obtain ⟨p1, q1, rfl⟩ := hv1.form
   have HV1 := hide hv1
   have HS1 := hide hs1
   have HG1 := hide g1
   have HN1 := hide (And.intro hne1 hml1)
   have HM1 := hide (show Sim R d1 n (0 + m1.length) _ (needD wDo st1) from Sim.need hsim1)
   obtain ⟨st2, hst2⟩ : ∃ s, needD wDo st1 = s := ⟨_, rfl⟩
   have HNf := hide (HNd.out w2 st1 wDo hs1)
   rw [hst2] at HM1 HNf
   have HST2 := hide hst2
   unfold wDo sv at HNf
   clear hv1 hs1 g1 hsim1 hne1 hml1 hlt1 her1 hst2
   go_wp2_with fail
   refine HNf.out.mono ?_
   rintro e w3 ⟨rfl, h3, g3⟩
   have HV3 := hide (HV1.out.rb g3 HS1.out.hasT)
   have HG3b := hide (only_trans HG1.out g3)
   have HS3b := hide h3
   have HL2 := hide (HP.out (0 + m1.length) ([] ++ [m1]) _ st2 w3 h3 HM1.out)
   clear h3 g3
   go_wp2_with fail
   refine HL2.out.mono ?_
   rintro e w5 ⟨v2, m2, st3, rfl, hv2, hs3, g5, hsim3, hne2, hml2, hlt2, her2⟩
   obtain ⟨p2, q2, rfl⟩ := hv2.form
   have HV5 := hide (HV3.out.rb g5 HS3b.out.hasT)
   have HV2 := hide (hv2.low HG3b.out.size)
   have HG5b := hide (only_trans HG3b.out g5)
   have HS5b := hide hs3
   have HN2 := hide (And.intro hne2 (And.intro hml2 her2))
   have HM3 := hide (show Sim R d1 n (0 + m1.length + m2.length) _ (needD wDone st3) from Sim.need hsim3)
   obtain ⟨st4, hst4⟩ : ∃ s, needD wDone st3 = s := ⟨_, rfl⟩
   have HNf2 := hide (HNd.out w5 st3 wDone hs3)
   rw [hst4] at HM3 HNf2
   have HST4 := hide hst4
   unfold wDone sv at HNf2
   clear hv2 hs3 g5 hsim3 hne2 hml2 hlt2 her2 hst4
   go_wp2_with fail
   refine HNf2.out.mono ?_
   rintro e w6 ⟨rfl, h6, g6⟩
   have HV6 := hide (HV5.out.rb g6 HS5b.out.hasT)
   have HV7 := hide (HV2.out.rb g6 HS5b.out.hasT)
   have HC := hide (CmD.of HB8.out HBw.out HND8.out HG8.out HRB.out HS8.out.hasT (only_alloc (only_trans HG5b.out g6) (.cells #[.slice p1 m1.length q1, .slice p2 m2.length q2] 23)) (h6.grown (only_alloc (only_refl w6 none) _)) (parts2N (w0 := W8) HV6.out.1 HV7.out.1 HV6.out.2.2.2 HV7.out.2.2.2) (fun m hm => by
    rcases List.mem_cons.1 hm with rfl | hm
    ·exact HV6.out.2.1
    ·rw [List.mem_singleton] at hm; subst hm; exact HV7.out.2.1) (by have := HN1.out.2; have := HN2.out.2.1; simp [sumL]; omega))
   have HSM := hide (show Sim R d1 n (sumL [m1, m2]) (Lq { kind := 12 } [m1, m2]) st4 from by
    have h5 := HM3.out
    rw [Nat.zero_add] at h5
    refine (show Sim R d1 n (sumL [m1, m2]) _ st4 by simpa [sumL] using h5).cong fun Z d2 e => ?_
    obtain ⟨Z2, e2⟩ := need_ok_of (HST4.out.trans e)
    have hm2 := HN2.out.1 Z2 d2 e2
    have hm1 : m1 ≠ [] := by
     cases hst : st2 with
     | er a k => have := HN2.out.2.2 a k hst; rw [this] at e2; cases e2
     | ok Z3 d3 =>
      obtain ⟨Z4, e4⟩ := need_ok_of (HST2.out.trans hst)
      exact HN1.out.1 Z4 d3 e4
    show (layR _ Z _).bind Kq = (layR _ Z _).bind Kq
    rw [joinP2 hm1 hm2]
    rfl)
   clear h6 g6
   go_wp2_with fail
   go_meet
   exact ⟨_, _, _, _, [m1, m2], st4, rfl, HC.out, HSM.out⟩
  ·have HFq := hide (HFO.out W7 HS7.out)
   clear x1 lx y0 zB lB
   go_wp2_with fail
   refine HFq.out.mono ?_
   intro e w2 hp2
   obtain ⟨v, n0, st2, rfl, ⟨b, rfl, hw, hbn, hn0⟩, h2, g2, hk2⟩ := fd_any hp2
   obtain ⟨nm, inn, D, rfl⟩ : ∃ nm inn D, n0 = ({ kind := 13, name := nm, inn := inn, words := D } : Nd) := ⟨_, _, _, hn0⟩
   obtain ⟨b1, b3, rfl, _, _⟩ := Own.form hw
   have hbb := Blk.grown HB7.out g2 (fun e => by injection e with e; have := HrB.out; omega)
   have hs0 : Sim R d1 n 0 (fun Z => (lst d1 Z (joinP []).1).bind fun x ts ns => (needR wDone ts ns).bind fun _ ts ns => (layR { kind := 13, name := nm, inn := inn, words := D, kids := [x] } ts ns).bind Kq) st2 := by
    have hr := HR.out.trans (core_for _ _)
    cases st2 with
    | er a k => exact (show R = _ by rw [hr, show forsF r [] = .bad a k from hk2]; rfl)
    | ok Z d2 =>
     obtain ⟨hd2, ns, hq⟩ := hk2
     obtain ⟨f1, f2, f3⟩ := fors_ok HGR.out.1 hq
     subst f3
     exact ⟨hd2, by rw [hr, hq]; rfl, by have := HLN.out; omega, by have := HLN.out; omega, f1, h2.good.2.1⟩
   have HS0 := hide hs0
   have hp8 := put8_chg w2 B (.int .i64 13) (.string ⟨nm.toArray⟩) (.bool inn) (.slice none 0 0) (.slice b1 D.length b3) (.slice none 0 0) (.slice none 0 0) (.slice none 0 0)
   have hb8 := Blk.put8_ hbb (.int .i64 13) (.string ⟨nm.toArray⟩) (.bool inn) (.slice none 0 0) (.slice b1 D.length b3) (.slice none 0 0) (.slice none 0 0) (.slice none 0 0)
   have hs8 := h2.chg hp8 (fun k e => by subst e; exact HrB.out)
   have hg8 := put8_gr (rb := rb) (only_trans HG7.out g2) HBw.out (.int .i64 13) (.string ⟨nm.toArray⟩) (.bool inn) (.slice none 0 0) (.slice b1 D.length b3) (.slice none 0 0) (.slice none 0 0) (.slice none 0 0)
   unfold put8 at hp8 hb8 hs8 hg8
   have HND8 := hide (show NdAt (low w) w2 (.slice none 0 0) (.slice b1 D.length b3) (.slice none 0 0) (.slice none 0 0) (.slice none 0 0) ({ kind := 13, name := nm, inn := inn, words := D } : Nd) from ⟨Own.nil _ _ _ _, hw, Own.nil _ _ _ _, ⟨[], Own.nil _ _ _ _, fun k hk => (by cases hk), fun i hi => absurd hi (by simp)⟩, Own.nil _ _ _ _, fun k hk => (by cases hk), fun k hk e => absurd e (Nat.not_lt.2 (Nat.le_trans HG7.out.size (hbn k hk))), fun k hk => (by cases hk), fun k hk => (by cases hk)⟩)
   have HP8 := hide hp8
   have HS8 := hide hs8
   have HG8 := hide hg8
   have HB8 := hide hb8
   have HBT := hide hbb.hasT
   obtain ⟨y0, y1, y2, y3, y4, y5, y6, y7, lB⟩ := box8 hbb
   have zB0 := Blk.frozen hbb 0
   have zB1 := Blk.frozen hbb 1
   have zB2 := Blk.frozen hbb 2
   have zB3 := Blk.frozen hbb 3
   have zB4 := Blk.frozen hbb 4
   have zB5 := Blk.frozen hbb 5
   have zB6 := Blk.frozen hbb 6
   have zB7 := Blk.frozen hbb 7
   clear hp2 hw hbn hn0 h2 g2 hk2 hs0 hp8 hb8 hs8 hg8 hbb
   go_upto_region 37 with (fail)
   generalize ((((((((w2.setCell ⟨B, 0, none⟩ (.int .i64 13)).setCell ⟨B, 1, none⟩ (.string ⟨nm.toArray⟩)).setCell ⟨B, 2, none⟩ (.bool inn)).setCell ⟨B, 3, none⟩ (.slice none 0 0)).setCell ⟨B, 4, none⟩ (.slice b1 D.length b3)).setCell ⟨B, 5, none⟩ (.slice none 0 0)).setCell ⟨B, 6, none⟩ (.slice none 0 0)).setCell ⟨B, 7, none⟩ (.slice none 0 0)) = W8 at HP8 HS8 HG8 HB8 ⊢
   clear y0 y1 y2 y3 y4 y5 y6 y7 lB zB0 zB1 zB2 zB3 zB4 zB5 zB6 zB7
   have HND8 := hide (HND8.out.chgB HP8.out HBT.out)
   have hs0 : Sim R d1 n 0 (fun Z => (lst d1 Z (joinP []).1).bind fun x ts ns => (needR wDone ts ns).bind fun _ ts ns => (layR { kind := 13, name := nm, inn := inn, words := D, kids := [x] } ts ns).bind Kq) st2 := HS0.out
   have HL1 := hide (HP.out 0 [] _ _ W8 HS8.out hs0)
   clear hs0
   go_wp2_with fail
   refine HL1.out.mono ?_
   rintro e w2 ⟨v1, m1, st1, rfl, hv1, hs1, g1, hsim1, hne1, hml1, hlt1, her1⟩
   obtain ⟨p1, q1, rfl⟩ := hv1.form
   have HV1 := hide hv1
   have HN1 := hide (And.intro hne1 hml1)
   have HSA := hide (hs1.grown (only_alloc (only_refl w2 none) (.cells #[.slice p1 m1.length q1] 23)))
   have HPA := hide (parts1N (w0 := W8) hv1.1 hv1.2.2.2)
   have HGA := hide (only_alloc g1 (.cells #[.slice p1 m1.length q1] 23))
   have HM1 := hide (show Sim R d1 n (0 + m1.length) _ (needD wDone st1) from Sim.need hsim1)
   obtain ⟨st9, hst9⟩ : ∃ s, needD wDone st1 = s := ⟨_, rfl⟩
   rw [hst9] at HM1
   have HST2 := hide hst9
   clear hv1 hs1 g1 hsim1 hne1 hml1 hlt1 her1 hst9
   go_upto_region 38 with (fail)
   generalize w2.alloc (.cells #[.slice p1 m1.length q1] 23) = w3, w2.heap.size = pb at HPA HSA HGA ⊢
   have HNf := hide (HNd.out w3 st1 wDone HSA.out)
   rw [HST2.out] at HNf
   unfold wDone sv at HNf
   go_wp2_with fail
   refine HNf.out.mono ?_
   rintro e w4 ⟨rfl, h4, g4⟩
   have HC := hide (CmD.of HB8.out HBw.out HND8.out HG8.out HRB.out HS8.out.hasT (only_trans HGA.out g4) h4 (HPA.out.drb g4 HSA.out.hasT) (fun m hm => by rw [List.mem_singleton] at hm; subst hm; exact HV1.out.2.1) (by have := HN1.out.2; simp [sumL]; omega))
   have HSM := hide (show Sim R d1 n (sumL [m1]) (Lq ({ kind := 13, name := nm, inn := inn, words := D }) [m1]) st9 from by
    have h5 := HM1.out
    rw [Nat.zero_add] at h5
    refine (show Sim R d1 n (sumL [m1]) _ st9 by simpa [sumL] using h5).cong fun Z d2 e => ?_
    obtain ⟨Z2, e2⟩ := need_ok_of (HST2.out.trans e)
    show (layR _ Z _).bind Kq = (layR _ Z _).bind Kq
    rw [joinP1 (HN1.out.1 Z2 d2 e2)]
    rfl)
   clear h4 g4
   go_wp2_with fail
   go_meet
   exact ⟨_, _, _, _, [m1], st9, rfl, HC.out, HSM.out⟩
  ·have HFq := hide (HCA.out W7 HS7.out HLN.out.1)
   clear x1 lx y0 zB lB
   go_wp2_with fail
   refine HFq.out.mono ?_
   rintro e w2 ⟨v, n0, ps, st2, rfl, ⟨b, p, vp, rfl, hnd, hn0, hpp, hkb, hsm, hpl⟩, h2, g2, hs2⟩
   obtain ⟨ss, PP, rfl⟩ : ∃ ss PP, n0 = ({ kind := 14, words := ss, pats := PP } : Nd) := ⟨_, _, hn0⟩
   obtain ⟨a1, a2, a3, b1, b2, b3, r1, r2, r3, p1, p2, p3, k1, k3, -, rfl, -, rfl, -⟩ := ndForms hnd
   have hpp2 := hpp
   obtain ⟨cs9, hq9, _⟩ := hpp2
   obtain ⟨v1, v3, rfl, _, _⟩ := Own.form hq9
   have hbb := Blk.grown HB7.out g2 (fun e => by injection e with e; have := HrB.out; omega)
   have hp8 := put8_chg w2 B (.int .i64 14) (.string ⟨#[]⟩) (.bool false) (.slice none 0 0) (.slice b1 b2 b3) (.slice none 0 0) (.slice p1 p2 p3) (.slice none 0 0)
   have hb8 := Blk.put8_ hbb (.int .i64 14) (.string ⟨#[]⟩) (.bool false) (.slice none 0 0) (.slice b1 b2 b3) (.slice none 0 0) (.slice p1 p2 p3) (.slice none 0 0)
   have hs8 := h2.chg hp8 (fun k e => by subst e; exact HrB.out)
   have hg8 := put8_gr (rb := rb) (only_trans HG7.out g2) HBw.out (.int .i64 14) (.string ⟨#[]⟩) (.bool false) (.slice none 0 0) (.slice b1 b2 b3) (.slice none 0 0) (.slice p1 p2 p3) (.slice none 0 0)
   unfold put8 at hp8 hb8 hs8 hg8
   have hC : CmD w _ rb T st2 B ({ kind := 14, words := ss, pats := PP } : Nd) (.slice none 0 0) (.slice b1 b2 b3) (.slice p1 p2 p3) (.slice v1 ps.length v3) ps := ⟨hs8, hb8, HBw.out, (hnd.mono (fun k hk => Nat.lt_of_lt_of_le hk HG7.out.size)).chgB hp8 hbb.hasT, ⟨W7, Blk.lt HB7.out, hpp.chgB hp8 hbb.hasT (Blk.lt HB7.out)⟩, hkb, hg8, HRB.out, ⟨hsm, hpl⟩⟩
   have HC := hide hC
   have HSM := hide (show Sim R d1 n (sumL ps) (Lq { kind := 14, words := ss, pats := PP } ps) st2 from by
    rw [HR.out.trans (core_case _ _)]
    exact hs2.map _)
   obtain ⟨y0, y1, y2, y3, y4, y5, y6, y7, lB⟩ := box8 hbb
   have zB0 := Blk.frozen hbb 0
   have zB1 := Blk.frozen hbb 1
   have zB2 := Blk.frozen hbb 2
   have zB3 := Blk.frozen hbb 3
   have zB4 := Blk.frozen hbb 4
   have zB5 := Blk.frozen hbb 5
   have zB6 := Blk.frozen hbb 6
   have zB7 := Blk.frozen hbb 7
   clear hnd hn0 hq9 hpp hkb hsm hpl h2 g2 hs2 hp8 hb8 hs8 hg8 hbb hC
   go_wp2_with fail
   generalize ((((((((w2.setCell ⟨B, 0, none⟩ (.int .i64 14)).setCell ⟨B, 1, none⟩ (.string ⟨#[]⟩)).setCell ⟨B, 2, none⟩ (.bool false)).setCell ⟨B, 3, none⟩ (.slice none 0 0)).setCell ⟨B, 4, none⟩ (.slice b1 b2 b3)).setCell ⟨B, 5, none⟩ (.slice none 0 0)).setCell ⟨B, 6, none⟩ (.slice p1 p2 p3)).setCell ⟨B, 7, none⟩ (.slice none 0 0)) = W8 at HC ⊢
   go_meet
   exact ⟨_, _, _, _, ps, st2, rfl, HC.out, HSM.out⟩
end Go.Proofs.Ytgpfjcogaheopaa

end
section
/- The walk of the document's command. -/
namespace Go.Proofs.Ytgpfjcogaheopaa
open Go.RowKit Lx
set_option maxRecDepth 100000
set_option maxHeartbeats 4000000 in
theorem dreserved_same (s : List UInt8) (w : World) : Calls Try.prog 15 #[sv s] w (fun e w' => e = .returned (.bool (resB s)) ∧ w' = w) := by
 unfold sv
 by_cases h0 : s = [33]
 ·subst h0
  go_enter Try.func15, Try.ntmps15
  go_wp2_with fail
  go_ret
  exact ⟨retb (a := true) (by decide), rfl⟩
 have b0 : (s == [33]) = false := beq_eq_false_iff_ne.2 h0
 by_cases h1 : s = [123]
 ·subst h1
  go_enter Try.func15, Try.ntmps15
  go_wp2_with fail
  go_ret
  exact ⟨retb (a := true) (by decide), rfl⟩
 have b1 : (s == [123]) = false := beq_eq_false_iff_ne.2 h1
 by_cases h2 : s = [125]
 ·subst h2
  go_enter Try.func15, Try.ntmps15
  go_wp2_with fail
  go_ret
  exact ⟨retb (a := true) (by decide), rfl⟩
 have b2 : (s == [125]) = false := beq_eq_false_iff_ne.2 h2
 by_cases h3 : s = [99, 97, 115, 101]
 ·subst h3
  go_enter Try.func15, Try.ntmps15
  go_wp2_with fail
  go_ret
  exact ⟨retb (a := true) (by decide), rfl⟩
 have b3 : (s == [99, 97, 115, 101]) = false := beq_eq_false_iff_ne.2 h3
 by_cases h4 : s = [100, 111]
 ·subst h4
  go_enter Try.func15, Try.ntmps15
  go_wp2_with fail
  go_ret
  exact ⟨retb (a := true) (by decide), rfl⟩
 have b4 : (s == [100, 111]) = false := beq_eq_false_iff_ne.2 h4
 by_cases h5 : s = [100, 111, 110, 101]
 ·subst h5
  go_enter Try.func15, Try.ntmps15
  go_wp2_with fail
  go_ret
  exact ⟨retb (a := true) (by decide), rfl⟩
 have b5 : (s == [100, 111, 110, 101]) = false := beq_eq_false_iff_ne.2 h5
 by_cases h6 : s = [101, 108, 105, 102]
 ·subst h6
  go_enter Try.func15, Try.ntmps15
  go_wp2_with fail
  go_ret
  exact ⟨retb (a := true) (by decide), rfl⟩
 have b6 : (s == [101, 108, 105, 102]) = false := beq_eq_false_iff_ne.2 h6
 by_cases h7 : s = [101, 108, 115, 101]
 ·subst h7
  go_enter Try.func15, Try.ntmps15
  go_wp2_with fail
  go_ret
  exact ⟨retb (a := true) (by decide), rfl⟩
 have b7 : (s == [101, 108, 115, 101]) = false := beq_eq_false_iff_ne.2 h7
 by_cases h8 : s = [101, 115, 97, 99]
 ·subst h8
  go_enter Try.func15, Try.ntmps15
  go_wp2_with fail
  go_ret
  exact ⟨retb (a := true) (by decide), rfl⟩
 have b8 : (s == [101, 115, 97, 99]) = false := beq_eq_false_iff_ne.2 h8
 by_cases h9 : s = [102, 105]
 ·subst h9
  go_enter Try.func15, Try.ntmps15
  go_wp2_with fail
  go_ret
  exact ⟨retb (a := true) (by decide), rfl⟩
 have b9 : (s == [102, 105]) = false := beq_eq_false_iff_ne.2 h9
 by_cases h10 : s = [102, 111, 114]
 ·subst h10
  go_enter Try.func15, Try.ntmps15
  go_wp2_with fail
  go_ret
  exact ⟨retb (a := true) (by decide), rfl⟩
 have b10 : (s == [102, 111, 114]) = false := beq_eq_false_iff_ne.2 h10
 by_cases h11 : s = [105, 102]
 ·subst h11
  go_enter Try.func15, Try.ntmps15
  go_wp2_with fail
  go_ret
  exact ⟨retb (a := true) (by decide), rfl⟩
 have b11 : (s == [105, 102]) = false := beq_eq_false_iff_ne.2 h11
 by_cases h12 : s = [105, 110]
 ·subst h12
  go_enter Try.func15, Try.ntmps15
  go_wp2_with fail
  go_ret
  exact ⟨retb (a := true) (by decide), rfl⟩
 have b12 : (s == [105, 110]) = false := beq_eq_false_iff_ne.2 h12
 by_cases h13 : s = [116, 104, 101, 110]
 ·subst h13
  go_enter Try.func15, Try.ntmps15
  go_wp2_with fail
  go_ret
  exact ⟨retb (a := true) (by decide), rfl⟩
 have b13 : (s == [116, 104, 101, 110]) = false := beq_eq_false_iff_ne.2 h13
 by_cases h14 : s = [117, 110, 116, 105, 108]
 ·subst h14
  go_enter Try.func15, Try.ntmps15
  go_wp2_with fail
  go_ret
  exact ⟨retb (a := true) (by decide), rfl⟩
 have b14 : (s == [117, 110, 116, 105, 108]) = false := beq_eq_false_iff_ne.2 h14
 by_cases h15 : s = [119, 104, 105, 108, 101]
 ·subst h15
  go_enter Try.func15, Try.ntmps15
  go_wp2_with fail
  go_ret
  exact ⟨retb (a := true) (by decide), rfl⟩
 have b15 : (s == [119, 104, 105, 108, 101]) = false := beq_eq_false_iff_ne.2 h15
 have hno : resB s = false := by
  unfold resB resW
  simp only [List.contains_cons, List.contains_nil, Bool.or_false]
  simp only [wBang, wOpen, wClose, wCase, wDo, wDone, wElif, wElse, wEsac, wFi, wFor, wIf, wIn, wThen, wUntil, wWhile, b0, b1, b2, b3, b4, b5, b6, b7, b8, b9, b10, b11, b12, b13, b14, b15, Bool.or_false]
 have HN := hide hno
 clear hno
 go_enter Try.func15, Try.ntmps15
 go_wp2_with fail
 go_ret
 exact ⟨retb (a := false) (by rw [HN.out]), rfl⟩
theorem dfail_at (rb : Nat) (T : List Tok) (vt : Value) (a : Nat) (d f x k : Int) (w : World) (h : DAt w rb T vt a d 0 f) : Calls Try.prog 33 #[.pointer (some ⟨rb, 0, none⟩), .int .i64 x, .int .i64 k] w (fun e w' => e = .returned (.tuple #[]) ∧ DAt w' rb T vt a d k x ∧ w.grownBy w' (some rb)) := by
 obtain ⟨c0, c1, c2, c3, c4⟩ := h.cells
 have lb := h.lb
 have z3 := Blk.frozen h.blk 3
 have z4 := Blk.frozen h.blk 4
 have HF := hide ((h.set 3 (.inr (.inl rfl)) k).set 4 (.inr (.inr rfl)) x)
 clear h
 go_enter Try.func33, Try.ntmps33
 go_wp2_with fail
 refine bodyPost_end (results_none rfl _ _ _) rfl ⟨rfl, HF.out, ?_⟩
 exact only_setCell (only_setCell (only_refl w (some rb)) (p := ⟨rb, 3, none⟩) (.inl rfl) _) (p := ⟨rb, 4, none⟩) (.inl rfl) _
set_option maxHeartbeats 8000000 in
theorem dopen_at (rb : Nat) (T : List Tok) (vt : Value) (a d : Nat) (f : Int) (t : Tok) (r : List Tok) (w : World) (h : DAt w rb T vt a d 0 f) (hd : T.drop a = t :: r) (h24 : 24 < d) (hd26 : d ≤ 26) : Calls Try.prog 69 #[.pointer (some ⟨rb, 0, none⟩)] w (fun e w' => e = .returned (.tuple #[]) ∧ (∃ x, DAt w' rb T vt a x 17 t.a) ∧ w.grownBy w' (some rb)) := by
 have HF := hide (fun f x W (hW : DAt W rb T vt a d 0 f) => dfail_at rb T vt a d f x 17 W hW)
 have HD := hide h
 obtain ⟨c0, c1, c2, c3, c4⟩ := h.cells
 obtain ⟨g, off, cap, t9, r9, rfl, hc, hg, hd2, t0, t1, t2⟩ := h.tok_
 have lb := h.lb
 have hlt := h.lt
 have hib : (0 : Int) ≤ (a : Int) ∧ (a : Int) < ((T.length : Nat) : Int) := by omega
 have hTl := h.tg.len
 obtain ⟨L, hL⟩ : ∃ L, T.length = L := ⟨_, rfl⟩
 have hZ := hd.symm.trans hd2
 injection hZ with hZ1 hZ2
 subst hZ1 hZ2
 have q : decide ((24 : Int) < (d : Int)) = true := decide_eq_true (by omega)
 have hd30 : (d : Int) ≤ 26 := by omega
 have HN : Hid (∀ n : Nat, DAt (w.drewN n) rb T (.slice (some ⟨g, off, none⟩) T.length cap) a d 0 f ∧ w.grownBy (w.drewN n) (some rb)) := hide (fun n => ⟨h.grown (only_drewN (only_refl w none) n), only_drewN (only_refl w _) n⟩)
 rw [hL] at c0 hib hc hTl
 clear h hd hd2 hL hlt HD h24
 obtain ⟨tk, tt, ta⟩ := t
 simp only [] at t0 t1 t2
 go_enter Try.func69, Try.ntmps69
 go_upto_region 1 with (fail)
 refine wp_region_qtail 12 (by kernel_rfl) (by kernel_rfl) ?_
 simp only [List.take_succ_cons, List.take_zero, List.drop_succ_cons, List.drop_zero]
 repeat (go_big_quiet_step (fail))
 refine wpQuiet_nil ?_
 rintro _ ⟨nq, rfl⟩
 clear c0 c1 c2 c3 c4 t0 t1 t2 hg lb
 go_wp2_with fail
 refine (HF.out f ta _ (HN.out nq).1).mono ?_
 rintro e w1 ⟨rfl, h1, g1⟩
 have G1 := hide (only_trans (HN.out nq).2 g1)
 clear g1
 obtain ⟨c0, c1, c2, c3, c4⟩ := h1.cells
 have lb := h1.lb
 have z2 := Blk.frozen h1.blk 2
 have HX := hide h1
 clear h1 HN
 go_wp2_with fail
 refine bodyPost_end (results_none rfl _ _ _) rfl ⟨rfl, ⟨_, HX.out.set 2 (.inl rfl) _⟩, only_setCell G1.out (p := ⟨rb, 2, none⟩) (.inl rfl) _⟩
theorem DAt.nxt {w : World} {rb : Nat} {T : List Tok} {g off cap a : Nat} {d e f : Int} {t u : Tok} {r : List Tok} (h : DAt w rb T (.slice (some ⟨g, off, none⟩) T.length cap) a d e f) (hd : T.drop a = t :: u :: r) : a + 1 < T.length ∧ w.cell? ⟨g, off + (a + 1) * 3, none⟩ = some (.int .i64 u.k) ∧ w.cell? ⟨g, off + (a + 1) * 3 + 1, none⟩ = some (.string ⟨u.t.toArray⟩) ∧ w.cell? ⟨g, off + (a + 1) * 3 + 2, none⟩ = some (.int .i64 u.a) := by
 have hl := congrArg List.length hd
 rw [List.length_drop] at hl
 simp only [List.length_cons] at hl
 have hlt : a + 1 < T.length := by omega
 obtain ⟨g', off', cap', e', _, _, hh⟩ := dtoks_at h.tok (by omega)
 injection e' with e1 e2 e3
 injection e1 with e1
 injection e1 with e4 e5
 subst e4 e5
 have hu : T[a + 1] = u := by
  have : T[a + 1]? = some u := by
   have h2 := congrArg (fun l => l[1]?) hd
   simpa [List.getElem?_drop] using h2
  rw [List.getElem?_eq_getElem hlt] at this
  exact Option.some.inj this
 have := hh (a + 1) hlt
 rw [hu] at this
 exact ⟨hlt, this⟩
/-- The reader's place, two tokens on. -/
theorem DAt.skip2 {w : World} {rb : Nat} {T : List Tok} {vt : Value} {a : Nat} {d e f : Int} {t u : Tok} {r : List Tok} (h : DAt w rb T vt a d e f) (hd : T.drop a = t :: u :: r) (hr : r ≠ []) : DAt (w.setCell ⟨rb, 1, none⟩ (.int .i64 ((a : Int) + 2))) rb T vt (a + 2) d e f ∧ T.drop (a + 2) = r := by
 have hl := congrArg List.length hd
 rw [List.length_drop] at hl
 simp only [List.length_cons] at hl
 have hrl : 0 < r.length := List.length_pos_iff.2 hr
 have hne : vt.ownBlock ≠ some rb := fun e => by have := h.old rb e; omega
 refine ⟨⟨?_, h.tok.far (p := ⟨rb, 1, none⟩) hne _, by omega, h.tg, h.old⟩, ?_⟩
 ·have := Blk.set_ h.blk 1 (.int .i64 ((a : Int) + 2))
  exact this
 ·rw [← List.drop_drop, hd]
  rfl
theorem fun_open {cmp : Drd} {d1 : Nat} {t u : Tok} {q : List Tok} (hu : u.k = 2 ∧ u.t = [40]) : funF cmp d1 (t :: u :: q) [] = (needR sRap q []).bind fun _ tt ns => if cmpH (breaksF tt) = true then (cmp d1 (breaksF tt) ns).bind fun x tt ns => layR { kind := 15, name := t.t, kids := [x] } tt ns else wrongR (breaksF tt) := by
 have h : needR sPar (u :: q) ([] : List Nd) = .ok () q [] := by
  unfold needR
  have hb : isB (u :: q) sPar = true := (show ((u.k == 2 && u.t == sPar) || wrdB (u :: q) sPar) = true by rw [hu.1, hu.2]; rfl)
  rw [if_pos hb]
  rfl
 show (needR sPar (u :: q) []).bind _ = _
 rw [h]
 rfl
end Go.Proofs.Ytgpfjcogaheopaa

end
