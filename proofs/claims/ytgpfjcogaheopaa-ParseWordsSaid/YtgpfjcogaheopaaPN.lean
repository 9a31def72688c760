/- One level deeper; a compound with its redirections. -/
import Derived.Test.YtgpfjcogaheopaaPJ
set_option linter.all false
namespace Go.Proofs.Ytgpfjcogaheopaa
open Go.RowKit Lx
set_option maxRecDepth 100000

theorem RAt.setd {av : Nat → Prop} {base : Nat → Prop} {rb d : Nat} {w : World} {vt vn : Value} {ts : List Tok} {ns : List Nd} (h : RAt av base w rb vt vn ts ns d) (d' : Nat) (hd : d' ≤ 26) {x : Int} (hx : x = d') : RAt av base (w.setCell ⟨rb, 2, none⟩ (.int .i64 x)) rb vt vn ts ns d' := by
  subst hx
  have hne : vt.ownBlock ≠ some rb := fun e => by
    have := (Own.hasT h.tok e).uniq h.blk.hasT
    exact absurd this (by decide)
  exact ⟨Blk.set_ h.blk 2 _, h.tok.far (p := ⟨rb, 2, none⟩) hne _, h.nds.far (p := ⟨rb, 2, none⟩) h.lo.at_ h.blk.hasT, h.new, h.lo.size (by rw [World.size_setCell]; exact Nat.le_refl _), h.good, h.few, hd, h.txt⟩
/-- The same, on tokens of which something holds. -/
def Okp (pre : List Tok → Prop) (fn : FuncId) (spec : Drd) (n : Nat) : Prop := ∀ (av : Nat → Prop) (base : Nat → Prop) (rb d : Nat) (ts : List Tok) (ns : List Nd) (w : World), (∀ k, av k → k < w.heap.size) → RIs av base w rb ts ns d → ts.length ≤ n → pre ts →
  Calls Try.prog fn #[.pointer (some ⟨rb, 0, none⟩)] w (GPost vInt av base w rb d (spec d ts ns))
def fv (fn : FuncId) (rb : Nat) : Value := .func (.func fn) #[.pointer (some ⟨rb, 0, none⟩)] #[]
set_option maxHeartbeats 8000000 in
theorem within_ok (pre : List Tok → Prop) (n : Nat) (fn : FuncId) (spec : Drd) (hfn : ∀ args w, Sem.run Try.prog (callFunc fn args) w = .ok (.enter fn args) w) (Hp : Okp pre fn spec n) (av : Nat → Prop) (base : Nat → Prop) (rb d : Nat) (ts : List Tok) (ns : List Nd) (w : World) (hav : ∀ k, av k → k < w.heap.size) (h : RIs av base w rb ts ns d) (hn : ts.length ≤ n) (hpre : pre ts) :
    Calls Try.prog 80 #[.pointer (some ⟨rb, 0, none⟩), fv fn rb] w (GPost vInt av base w rb d (withinF spec d ts ns)) := by
  obtain ⟨vt, vn, h⟩ := h
  have HH := hide h
  have HAV := hide hav
  have hdp := h.dep
  obtain ⟨t, r, g, off, cap, rfl, rfl, hc, hg, c0, c1, c2⟩ := h.head
  obtain ⟨d0, d1, d2⟩ := h.cells
  have lb := Blk.lt h.blk
  have z2 := Blk.frozen h.blk 2
  have hib : (0 : Int) < (((t :: r).length : Nat) : Int) := by simp only [List.length_cons]; omega
  obtain ⟨L, hL⟩ : ∃ L, (t :: r).length = L := ⟨_, rfl⟩
  unfold withinF fv
  by_cases hd : 24 < d
  · have q : decide ((24 : Int) < (d : Int)) = true := decide_eq_true (by omega)
    rw [if_pos hd]
    unfold GPost
    simp only []
    rw [hL] at d0 hib hc
    clear h hL hd
    go_enter Try.func80, Try.ntmps80
    go_wp2_with fail
    exact post_panicP rfl ⟨rfl, Fr.refl base w⟩
  · have q : decide ((24 : Int) < (d : Int)) = false := decide_eq_false (by omega)
    rw [if_neg hd]
    have hdd : d ≤ 24 := by omega
    have HD := hide (RAt.setd h (d + 1) (by omega) (x := (d : Int) + 1) (by omega))
    have hfr := hide (h.fr_set 2 (.int .i64 ((d : Int) + 1)))
    have HS := hide (show (w.setCell ⟨rb, 2, none⟩ (.int .i64 ((d : Int) + 1))).heap.size = w.heap.size from World.size_setCell ..)
    have HC := hide (Hp av base rb (d + 1) (t :: r) ns _ (fun k hk => by have := HS.out; have := HAV.out k hk; omega) ⟨_, _, HD.out⟩ hn hpre)
    obtain ⟨PQ, hpq⟩ : ∃ PQ, spec (d + 1) (t :: r) ns = PQ := ⟨_, rfl⟩
    rw [hpq] at HC ⊢
    rw [hL] at d0 hib hc
    have hcd : (d : Int) + 1 ≤ 9223372036854775807 := by omega
    clear h hL hd hpq Hp hav
    go_enter Try.func80, Try.ntmps80
    go_wp2_with fail
    refine HC.out.mono ?_
    cases PQ with
    | bad a e =>
      unfold GPost
      simp only []
      rintro e w1 ⟨rfl, hf⟩
      exact post_panicP rfl ⟨rfl, hfr.out.trans hf⟩
    | ok x T ns1 =>
      unfold GPost vInt
      simp only []
      rintro e w1 ⟨v, rfl, rfl, ⟨vt1, vn1, hr1⟩, hf1⟩
      have HR1 := hide hr1
      have HF1 := hide (hfr.out.trans hf1)
      obtain ⟨e0, e1, e2⟩ := hr1.cells
      have lb1 := Blk.lt hr1.blk
      have z21 := Blk.frozen hr1.blk 2
      have HDN := hide (RAt.setd hr1 d (by omega) (x := (((d + 1 : Nat) : Int)) - 1) (by omega))
      have HFN := hide (HF1.out.trans (hr1.fr_set 2 (.int .i64 ((((d + 1 : Nat) : Int)) - 1))))
      have hcd1 : (1 : Int) ≤ ((d + 1 : Nat) : Int) := by omega
      have hcd2 : ((d + 1 : Nat) : Int) ≤ 30 := by omega
      obtain ⟨D1, hD1⟩ : ∃ D1, d + 1 = D1 := ⟨_, rfl⟩
      rw [hD1] at e2 hcd1 hcd2 HDN HFN
      clear hr1 hf1 d0 d1 d2 lb z2 c0 c1 c2 hD1 q hcd hc hg hib
      go_wp2_with fail
      go_ret
      exact ⟨_, rfl, rfl, ⟨_, _, HDN.out⟩, HFN.out⟩
section
variable {av : Nat → Prop} {base : Nat → Prop} {rb d : Nat} {w w' : World} {vt vn v : Value} {ts : List Tok} {ns : List Nd}
theorem setRd_get (ns : List Nd) (m : Nat) (l : List Rd) (i : Nat) (hi : i < (setRd ns m l).length) (hi' : i < ns.length) : (setRd ns m l)[i] = if m = i then { ns[i] with redirs := l } else ns[i] := by
  simp [setRd, List.getElem_modify]
theorem nd_set {cs : List Value} {n i m : Nat} (hl : cs.length = n * 8) (hi : i < n) (u : Value) : ((cs.set (m * 8 + 5) u).drop (i * 8)).take 8 = if m = i then ((cs.drop (i * 8)).take 8).set 5 u else (cs.drop (i * 8)).take 8 := by
  apply List.ext_getElem?
  intro j
  rw [List.getElem?_take, List.getElem?_drop]
  by_cases hj : j < 8
  · rw [if_pos hj, List.getElem?_set]
    by_cases hm : m = i
    · subst hm
      rw [if_pos rfl]
      by_cases h5 : j = 5
      · subst h5
        rw [if_pos (by omega), if_pos (by omega), List.getElem?_set, if_pos rfl, if_pos (by rw [List.length_take, List.length_drop]; omega)]
      · rw [if_neg (by omega), List.getElem?_set, if_neg (by omega), List.getElem?_take, if_pos hj, List.getElem?_drop]
    · rw [if_neg hm, if_neg (by omega), List.getElem?_take, if_pos hj, List.getElem?_drop]
  · rw [if_neg hj]
    split
    · rw [List.getElem?_eq_none (by rw [List.length_set, List.length_take]; omega)]
    · rw [List.getElem?_eq_none (by rw [List.length_take]; omega)]
theorem NdS.setRd_ {g off cap m : Nat} (h : NdS av w (.slice (some ⟨g, off, none⟩) ns.length cap) ns) (hm : m < ns.length) {l : List Rd} (hl : RdS w v l) (hv : Av av v) : NdS av (w.setCell ⟨g, off + m * 8 + 5, none⟩ v) (.slice (some ⟨g, off, none⟩) ns.length cap) (setRd ns m l) := by
  obtain ⟨cs, h1, h2⟩ := h
  have hlen : (setRd ns m l).length = ns.length := setRd_len _ _ _
  have hT : HasT w g 33 := Own.hasT h1 rfl
  have hc : Chg (fun k => k = g) w (w.setCell ⟨g, off + m * 8 + 5, none⟩ v) := Chg.setCell (S := fun k => k = g) (Chg.refl _ w) (p := ⟨g, off + m * 8 + 5, none⟩) (.inl rfl) v
  have hk : ∀ {e : TypeId} {s n k : Nat} {u : Value} {xs : List Value}, Own w e s u n xs k → e ≠ 33 → Own (w.setCell ⟨g, off + m * 8 + 5, none⟩ v) e s u n xs k := fun ho he => ho.chg hc fun b hb e => he ((Own.hasT ho hb).uniq (e ▸ hT))
  have hset := Own.set h1 (m * 8 + 5) (by omega) v
  rw [← Nat.add_assoc] at hset
  refine ⟨cs.set (m * 8 + 5) v, by rw [hlen]; exact hset, fun i hi => ?_⟩
  have hi' : i < ns.length := by rw [hlen] at hi; exact hi
  obtain ⟨a, b, r, p, k, e, hn⟩ := h2 i hi'
  have hp : PatS av (w.setCell ⟨g, off + m * 8 + 5, none⟩ v) p (ns[i]).pats := by
    obtain ⟨ps, q1, q2, q3⟩ := hn.pats
    exact ⟨ps, hk q1 (by decide), q2, fun i hi => by obtain ⟨u, hu, hs, hv⟩ := q3 i hi; exact ⟨u, hu, hk hs (by decide), hv⟩⟩
  rw [nd_set h1.len hi']
  by_cases hmi : m = i
  · subst hmi
    refine ⟨a, b, v, p, k, ?_, ?_⟩
    · rw [if_pos rfl, e, setRd_get _ _ _ _ hi hi', if_pos rfl]
      rfl
    · rw [setRd_get _ _ _ _ hi hi', if_pos rfl]
      exact ⟨hk hn.sets (by decide), hk hn.words (by decide), hk hl (by decide), hp, hk hn.kids (by decide), hn.ha, hn.hb, hv, hn.hk⟩
  · refine ⟨a, b, r, p, k, ?_, ?_⟩
    · rw [if_neg hmi, e, setRd_get _ _ _ _ hi hi', if_neg hmi]
    · rw [setRd_get _ _ _ _ hi hi', if_neg hmi]
      exact ⟨hk hn.sets (by decide), hk hn.words (by decide), hk hn.rds (by decide), hp, hk hn.kids (by decide), hn.ha, hn.hb, hn.hr, hn.hk⟩
theorem RAt.setRd_ {g off cap m : Nat} (h : RAt av base w rb vt (.slice (some ⟨g, off, none⟩) ns.length cap) ts ns d) (hm : m < ns.length) {l : List Rd} (hl : RdS w v l) (hv : Av av v) : RAt av base (w.setCell ⟨g, off + m * 8 + 5, none⟩ v) rb vt (.slice (some ⟨g, off, none⟩) ns.length cap) ts (setRd ns m l) d ∧ Fr base w (w.setCell ⟨g, off + m * 8 + 5, none⟩ v) := by
  obtain ⟨cs, h1, _⟩ := h.nds
  have hT : HasT w g 33 := Own.hasT h1 rfl
  have hrb : rb ≠ g := fun e => absurd ((e ▸ h.blk.hasT).uniq hT) (by decide)
  refine ⟨⟨Blk.far h.blk (p := ⟨g, off + m * 8 + 5, none⟩) hrb _, h.tok.far (p := ⟨g, off + m * 8 + 5, none⟩) (fun e => absurd ((Own.hasT h.tok e).uniq hT) (by decide)) _, ?_, h.new, h.lo.size (by rw [World.size_setCell]; exact Nat.le_refl _), h.good, by rw [setRd_len]; exact h.few, h.dep, h.txt⟩, (Fr.refl base w).set (p := ⟨g, off + m * 8 + 5, none⟩) (h.new g rfl) (.inr hT) _⟩
  exact h.nds.setRd_ hm hl hv
end
set_option maxHeartbeats 8000000 in
theorem compound_ok (n : Nat) (core : Drd) (hd : DecD 5 core) (Hp : Okp (fun ts => cmpH ts = true) 89 core n) : Okp (fun ts => cmpH ts = true) 78 (cmpF core) n := by
  intro av base rb d ts ns w hav h hn hpre
  have HAV := hide hav
  have HWI := hide (within_ok _ n _ core (fun _ _ => rfl) Hp av base rb d ts ns w hav h hn hpre)
  have hdec := within_dec hd d ts ns
  show Calls Try.prog 78 #[.pointer (some ⟨rb, 0, none⟩)] w (GPost vInt av base w rb d (cmpF core d ts ns))
  unfold cmpF
  obtain ⟨PQ, hpq⟩ : ∃ PQ, withinF core d ts ns = PQ := ⟨_, rfl⟩
  rw [hpq] at HWI ⊢
  have hmf : ∀ (fn : Fn) (first cap : Array Value) (w : World), (Instr.makeFunc fn first cap).run Try.prog w = .ok (.func fn first cap) w := fun _ _ _ _ => rfl
  unfold GPost vInt fv at HWI
  cases PQ with
  | bad a e =>
    rw [PR.bind_bad]
    unfold GPost
    simp only []
    clear hav h hpq hdec
    go_enter Try.func78, Try.ntmps78
    go_wp2_with fail
    refine HWI.out.mono ?_
    rintro e w1 ⟨rfl, hf⟩
    exact post_panicP rfl ⟨rfl, hf⟩
  | ok x T ns1 =>
    have hl := hdec x T ns1 h.good hpq
    rw [PR.bind_ok]
    have hmo := hl.more
    obtain ⟨m, hm⟩ : ∃ m, ns1.length = m + 1 := ⟨ns1.length - 1, by omega⟩
    obtain rfl : x = (m : Int) := by rw [hl.last]; omega
    have HM := hide hm
    obtain ⟨R, hR⟩ : ∃ R, ((redirF T ns1).bind fun l ts ns => (.ok (m : Int) ts (setRd ns m l) : PR Int)) = R := ⟨_, rfl⟩
    have HR := hide hR
    rw [hR]
    clear hav h hpq hdec hl hm hmo hR
    go_enter Try.func78, Try.ntmps78
    go_wp2_with fail
    refine HWI.out.mono ?_
    rintro e w1 ⟨v, rfl, rfl, ⟨vt1, vn1, hr1⟩, hf1⟩
    have HRD := hide (redirs_any av base rb d vn1 T ns1 w1 ⟨vt1, hr1⟩)
    obtain ⟨PR2, hp2⟩ : ∃ PR2, redirF T ns1 = PR2 := ⟨_, rfl⟩
    rw [hp2] at HRD
    have HR1 := hide hr1
    have HF1 := hide hf1
    unfold TPost vRdsN at HRD
    have HGD := hide hr1.good
    have HP2 := hide hp2
    clear hr1 hf1 hp2
    go_wp2_with fail
    refine HRD.out.mono ?_
    cases PR2 with
    | bad a e =>
      rintro e w2 ⟨rfl, hg⟩
      refine post_panicP rfl ?_
      rw [← HR.out, HP2.out]
      exact (⟨rfl, HF1.out.trans (HR1.out.fr_rb hg)⟩ : _ ∧ _)
    | ok l T2 ns2 =>
      obtain ⟨_, rfl, _⟩ := redirF_good HGD.out HP2.out
      rintro e w2 ⟨v, rfl, ⟨ho, hnw⟩, ⟨vt2, hr2⟩, hg⟩
      have HRX := hide (show R = .ok (m : Int) T2 (setRd ns2 m l) by rw [← HR.out, HP2.out]; rfl)
      obtain ⟨cs, hcs, _⟩ := hr2.nds
      obtain ⟨g, off, cap, rfl, hcp, _, hgl, hcc⟩ := hcs.some_ (by have := HM.out; omega)
      obtain ⟨l1, l3, rfl, _, _⟩ := Own.form ho
      have HFIN := hide (RAt.setRd_ (m := m) hr2 (by have := HM.out; omega) ho (fun b hb hk => by have h1 := hnw b hb; have h2 := HAV.out b hk; have h3 := HF1.out.size; omega))
      have HF2 := hide (HF1.out.trans (HR1.out.fr_rb hg))
      obtain ⟨e0, e1, e2⟩ := hr2.cells
      have lb2 := Blk.lt hr2.blk
      have zg := Own.frozen0 hcs (m * 8 + 5)
      obtain ⟨u5, hu5⟩ : ∃ u5, w2.cell? ⟨g, off + m * 8 + 5, none⟩ = some u5 := by
        have h5 := hcc (m * 8 + 5) (by have := HM.out; omega)
        rw [← Nat.add_assoc] at h5
        rw [h5]
        have h6 : m * 8 + 5 < cs.length := by rw [hcs.len]; have := HM.out; omega
        exact ⟨cs[m * 8 + 5], List.getElem?_eq_getElem h6⟩
      rw [← Nat.add_assoc] at zg
      obtain ⟨NL, hNL⟩ : ∃ NL, ns2.length = NL := ⟨_, rfl⟩
      have hib1 : (0 : Int) ≤ (m : Int) := by omega
      have hib2 : (m : Int) < (NL : Int) := by have := HM.out; omega
      rw [hNL] at e1 hcp
      clear ho hnw hr2 hg hcs hcc hNL
      go_wp2_with fail
      rw [HRX.out]
      go_ret
      exact ⟨_, rfl, rfl, ⟨_, _, HFIN.out.1⟩, HF2.out.trans HFIN.out.2⟩

end Go.Proofs.Ytgpfjcogaheopaa
