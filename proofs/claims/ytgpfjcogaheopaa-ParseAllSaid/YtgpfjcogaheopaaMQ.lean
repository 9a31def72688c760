/- Several texts in one. -/
import Derived.Test.YtgpfjcogaheopaaMK
import Derived.Test.YtgpfjcogaheopaaPM
set_option linter.all false
section
/- One level deeper; a compound with its redirections. -/
namespace Go.Proofs.Ytgpfjcogaheopaa
open Go.RowKit Lx
set_option maxRecDepth 100000
theorem RAt.setd {av : Nat → Prop} {base : Nat → Prop} {rb d : Nat} {w : World} {vt vn : Value} {ts : List Tok} {ns : List Nd} (h : RAt av base w rb vt vn ts ns d) (d' : Nat) (hd : d' ≤ 26) {x : Int} (hx : x = d') : RAt av base (w.setCell ⟨rb, 2, none⟩ (.int .i64 x)) rb vt vn ts ns d' := by
 subst hx
 have hne : vt.ownBlock ≠ some rb := fun e => by
  have := (Own.hasT h.tok e).uniq h.blk.hasT
  exact absurd this (by decide)
 exact ⟨Blk.set_ h.blk 2 _, h.tok.far (p := ⟨rb, 2, none⟩) hne _, h.nds.far (p := ⟨rb, 2, none⟩) h.lo.at_ h.blk.hasT, h.new, h.lo.size (by rw [World.size_setCell]; exact Nat.le_refl _), h.good, h.few, hd, h.txt⟩
/-- The same, on tokens of which something holds. -/
def Okp (pre : List Tok → Prop) (fn : FuncId) (spec : Drd) (n : Nat) : Prop := ∀ (av : Nat → Prop) (base : Nat → Prop) (rb d : Nat) (ts : List Tok) (ns : List Nd) (w : World), (∀ k, av k → k < w.heap.size) → RIs av base w rb ts ns d → ts.length ≤ n → pre ts →
 Calls Try.prog fn #[.pointer (some ⟨rb, 0, none⟩)] w (GPost vInt av base w rb d (spec d ts ns))
def fv (fn : FuncId) (rb : Nat) : Value := .func (.func fn) #[.pointer (some ⟨rb, 0, none⟩)] #[]
set_option maxHeartbeats 8000000 in
theorem within_ok (pre : List Tok → Prop) (n : Nat) (fn : FuncId) (spec : Drd) (hfn : ∀ args w, Sem.run Try.prog (callFunc fn args) w = .ok (.enter fn args) w) (Hp : Okp pre fn spec n) (av : Nat → Prop) (base : Nat → Prop) (rb d : Nat) (ts : List Tok) (ns : List Nd) (w : World) (hav : ∀ k, av k → k < w.heap.size) (h : RIs av base w rb ts ns d) (hn : ts.length ≤ n) (hpre : pre ts) :
  Calls Try.prog 80 #[.pointer (some ⟨rb, 0, none⟩), fv fn rb] w (GPost vInt av base w rb d (withinF spec d ts ns)) := by
 obtain ⟨vt, vn, h⟩ := h
 have HH := hide h
 have HAV := hide hav
 have hdp := h.dep
 obtain ⟨t, r, g, off, cap, rfl, rfl, hc, hg, c0, c1, c2⟩ := h.head
 obtain ⟨d0, d1, d2⟩ := h.cells
 have lb := Blk.lt h.blk
 have z2 := Blk.frozen h.blk 2
 have hib : (0 : Int) < (((t :: r).length : Nat) : Int) := by simp only [List.length_cons]; omega
 obtain ⟨L, hL⟩ : ∃ L, (t :: r).length = L := ⟨_, rfl⟩
 unfold withinF fv
 by_cases hd : 24 < d
 ·have q : decide ((24 : Int) < (d : Int)) = true := decide_eq_true (by omega)
  rw [if_pos hd]
  unfold GPost
  simp only []
  rw [hL] at d0 hib hc
  clear h hL hd
  go_enter Try.func80, Try.ntmps80
  go_wp2_with fail
  exact post_panicP rfl ⟨rfl, Fr.refl base w⟩
 ·have q : decide ((24 : Int) < (d : Int)) = false := decide_eq_false (by omega)
  rw [if_neg hd]
  have hdd : d ≤ 24 := by omega
  have HD := hide (RAt.setd h (d + 1) (by omega) (x := (d : Int) + 1) (by omega))
  have hfr := hide (h.fr_set 2 (.int .i64 ((d : Int) + 1)))
  have HS := hide (show (w.setCell ⟨rb, 2, none⟩ (.int .i64 ((d : Int) + 1))).heap.size = w.heap.size from World.size_setCell ..)
  have HC := hide (Hp av base rb (d + 1) (t :: r) ns _ (fun k hk => by have := HS.out; have := HAV.out k hk; omega) ⟨_, _, HD.out⟩ hn hpre)
  obtain ⟨PQ, hpq⟩ : ∃ PQ, spec (d + 1) (t :: r) ns = PQ := ⟨_, rfl⟩
  rw [hpq] at HC ⊢
  rw [hL] at d0 hib hc
  have hcd : (d : Int) + 1 ≤ 9223372036854775807 := by omega
  clear h hL hd hpq Hp hav
  go_enter Try.func80, Try.ntmps80
  go_wp2_with fail
  refine HC.out.mono ?_
  cases PQ with
  | bad a e =>
   unfold GPost
   simp only []
   rintro e w1 ⟨rfl, hf⟩
   exact post_panicP rfl ⟨rfl, hfr.out.trans hf⟩
  | ok x T ns1 =>
   unfold GPost vInt
   simp only []
   rintro e w1 ⟨v, rfl, rfl, ⟨vt1, vn1, hr1⟩, hf1⟩
   have HR1 := hide hr1
   have HF1 := hide (hfr.out.trans hf1)
   obtain ⟨e0, e1, e2⟩ := hr1.cells
   have lb1 := Blk.lt hr1.blk
   have z21 := Blk.frozen hr1.blk 2
   have HDN := hide (RAt.setd hr1 d (by omega) (x := (((d + 1 : Nat) : Int)) - 1) (by omega))
   have HFN := hide (HF1.out.trans (hr1.fr_set 2 (.int .i64 ((((d + 1 : Nat) : Int)) - 1))))
   have hcd1 : (1 : Int) ≤ ((d + 1 : Nat) : Int) := by omega
   have hcd2 : ((d + 1 : Nat) : Int) ≤ 30 := by omega
   obtain ⟨D1, hD1⟩ : ∃ D1, d + 1 = D1 := ⟨_, rfl⟩
   rw [hD1] at e2 hcd1 hcd2 HDN HFN
   clear hr1 hf1 d0 d1 d2 lb z2 c0 c1 c2 hD1 q hcd hc hg hib
   go_wp2_with fail
   go_ret
   exact ⟨_, rfl, rfl, ⟨_, _, HDN.out⟩, HFN.out⟩
section
variable {av : Nat → Prop} {base : Nat → Prop} {rb d : Nat} {w w' : World} {vt vn v : Value} {ts : List Tok} {ns : List Nd}
theorem setRd_get (ns : List Nd) (m : Nat) (l : List Rd) (i : Nat) (hi : i < (setRd ns m l).length) (hi' : i < ns.length) : (setRd ns m l)[i] = if m = i then { ns[i] with redirs := l } else ns[i] := by
 simp [setRd, List.getElem_modify]
theorem nd_set {cs : List Value} {n i m : Nat} (hl : cs.length = n * 8) (hi : i < n) (u : Value) : ((cs.set (m * 8 + 5) u).drop (i * 8)).take 8 = if m = i then ((cs.drop (i * 8)).take 8).set 5 u else (cs.drop (i * 8)).take 8 := by
 apply List.ext_getElem?
 intro j
 rw [List.getElem?_take, List.getElem?_drop]
 by_cases hj : j < 8
 ·rw [if_pos hj, List.getElem?_set]
  by_cases hm : m = i
  ·subst hm
   rw [if_pos rfl]
   by_cases h5 : j = 5
   ·subst h5
    rw [if_pos (by omega), if_pos (by omega), List.getElem?_set, if_pos rfl, if_pos (by rw [List.length_take, List.length_drop]; omega)]
   ·rw [if_neg (by omega), List.getElem?_set, if_neg (by omega), List.getElem?_take, if_pos hj, List.getElem?_drop]
  ·rw [if_neg hm, if_neg (by omega), List.getElem?_take, if_pos hj, List.getElem?_drop]
 ·rw [if_neg hj]
  split
  ·rw [List.getElem?_eq_none (by rw [List.length_set, List.length_take]; omega)]
  ·rw [List.getElem?_eq_none (by rw [List.length_take]; omega)]
theorem NdS.setRd_ {g off cap m : Nat} (h : NdS av w (.slice (some ⟨g, off, none⟩) ns.length cap) ns) (hm : m < ns.length) {l : List Rd} (hl : RdS w v l) (hv : Av av v) : NdS av (w.setCell ⟨g, off + m * 8 + 5, none⟩ v) (.slice (some ⟨g, off, none⟩) ns.length cap) (setRd ns m l) := by
 obtain ⟨cs, h1, h2⟩ := h
 have hlen : (setRd ns m l).length = ns.length := setRd_len _ _ _
 have hT : HasT w g 33 := Own.hasT h1 rfl
 have hc : Chg (fun k => k = g) w (w.setCell ⟨g, off + m * 8 + 5, none⟩ v) := Chg.setCell (S := fun k => k = g) (Chg.refl _ w) (p := ⟨g, off + m * 8 + 5, none⟩) (.inl rfl) v
 have hk : ∀ {e : TypeId} {s n k : Nat} {u : Value} {xs : List Value}, Own w e s u n xs k → e ≠ 33 → Own (w.setCell ⟨g, off + m * 8 + 5, none⟩ v) e s u n xs k := fun ho he => ho.chg hc fun b hb e => he ((Own.hasT ho hb).uniq (e ▸ hT))
 have hset := Own.set h1 (m * 8 + 5) (by omega) v
 rw [← Nat.add_assoc] at hset
 refine ⟨cs.set (m * 8 + 5) v, by rw [hlen]; exact hset, fun i hi => ?_⟩
 have hi' : i < ns.length := by rw [hlen] at hi; exact hi
 obtain ⟨a, b, r, p, k, e, hn⟩ := h2 i hi'
 have hp : PatS av (w.setCell ⟨g, off + m * 8 + 5, none⟩ v) p (ns[i]).pats := by
  obtain ⟨ps, q1, q2, q3⟩ := hn.pats
  exact ⟨ps, hk q1 (by decide), q2, fun i hi => by obtain ⟨u, hu, hs, hv⟩ := q3 i hi; exact ⟨u, hu, hk hs (by decide), hv⟩⟩
 rw [nd_set h1.len hi']
 by_cases hmi : m = i
 ·subst hmi
  refine ⟨a, b, v, p, k, ?_, ?_⟩
  ·rw [if_pos rfl, e, setRd_get _ _ _ _ hi hi', if_pos rfl]
   rfl
  ·rw [setRd_get _ _ _ _ hi hi', if_pos rfl]
   exact ⟨hk hn.sets (by decide), hk hn.words (by decide), hk hl (by decide), hp, hk hn.kids (by decide), hn.ha, hn.hb, hv, hn.hk⟩
 ·refine ⟨a, b, r, p, k, ?_, ?_⟩
  ·rw [if_neg hmi, e, setRd_get _ _ _ _ hi hi', if_neg hmi]
  ·rw [setRd_get _ _ _ _ hi hi', if_neg hmi]
   exact ⟨hk hn.sets (by decide), hk hn.words (by decide), hk hn.rds (by decide), hp, hk hn.kids (by decide), hn.ha, hn.hb, hn.hr, hn.hk⟩
theorem RAt.setRd_ {g off cap m : Nat} (h : RAt av base w rb vt (.slice (some ⟨g, off, none⟩) ns.length cap) ts ns d) (hm : m < ns.length) {l : List Rd} (hl : RdS w v l) (hv : Av av v) : RAt av base (w.setCell ⟨g, off + m * 8 + 5, none⟩ v) rb vt (.slice (some ⟨g, off, none⟩) ns.length cap) ts (setRd ns m l) d ∧ Fr base w (w.setCell ⟨g, off + m * 8 + 5, none⟩ v) := by
 obtain ⟨cs, h1, _⟩ := h.nds
 have hT : HasT w g 33 := Own.hasT h1 rfl
 have hrb : rb ≠ g := fun e => absurd ((e ▸ h.blk.hasT).uniq hT) (by decide)
 refine ⟨⟨Blk.far h.blk (p := ⟨g, off + m * 8 + 5, none⟩) hrb _, h.tok.far (p := ⟨g, off + m * 8 + 5, none⟩) (fun e => absurd ((Own.hasT h.tok e).uniq hT) (by decide)) _, ?_, h.new, h.lo.size (by rw [World.size_setCell]; exact Nat.le_refl _), h.good, by rw [setRd_len]; exact h.few, h.dep, h.txt⟩, (Fr.refl base w).set (p := ⟨g, off + m * 8 + 5, none⟩) (h.new g rfl) (.inr hT) _⟩
 exact h.nds.setRd_ hm hl hv
end
set_option maxHeartbeats 8000000 in
theorem compound_ok (n : Nat) (core : Drd) (hd : DecD 5 core) (Hp : Okp (fun ts => cmpH ts = true) 89 core n) : Okp (fun ts => cmpH ts = true) 78 (cmpF core) n := by
 intro av base rb d ts ns w hav h hn hpre
 have HAV := hide hav
 have HWI := hide (within_ok _ n _ core (fun _ _ => rfl) Hp av base rb d ts ns w hav h hn hpre)
 have hdec := within_dec hd d ts ns
 show Calls Try.prog 78 #[.pointer (some ⟨rb, 0, none⟩)] w (GPost vInt av base w rb d (cmpF core d ts ns))
 unfold cmpF
 obtain ⟨PQ, hpq⟩ : ∃ PQ, withinF core d ts ns = PQ := ⟨_, rfl⟩
 rw [hpq] at HWI ⊢
 have hmf : ∀ (fn : Fn) (first cap : Array Value) (w : World), (Instr.makeFunc fn first cap).run Try.prog w = .ok (.func fn first cap) w := fun _ _ _ _ => rfl
 unfold GPost vInt fv at HWI
 cases PQ with
 | bad a e =>
  rw [PR.bind_bad]
  unfold GPost
  simp only []
  clear hav h hpq hdec
  go_enter Try.func78, Try.ntmps78
  go_wp2_with fail
  refine HWI.out.mono ?_
  rintro e w1 ⟨rfl, hf⟩
  exact post_panicP rfl ⟨rfl, hf⟩
 | ok x T ns1 =>
  have hl := hdec x T ns1 h.good hpq
  rw [PR.bind_ok]
  have hmo := hl.more
  obtain ⟨m, hm⟩ : ∃ m, ns1.length = m + 1 := ⟨ns1.length - 1, by omega⟩
  obtain rfl : x = (m : Int) := by rw [hl.last]; omega
  have HM := hide hm
  obtain ⟨R, hR⟩ : ∃ R, ((redirF T ns1).bind fun l ts ns => (.ok (m : Int) ts (setRd ns m l) : PR Int)) = R := ⟨_, rfl⟩
  have HR := hide hR
  rw [hR]
  clear hav h hpq hdec hl hm hmo hR
  go_enter Try.func78, Try.ntmps78
  go_wp2_with fail
  refine HWI.out.mono ?_
  rintro e w1 ⟨v, rfl, rfl, ⟨vt1, vn1, hr1⟩, hf1⟩
  have HRD := hide (redirs_any av base rb d vn1 T ns1 w1 ⟨vt1, hr1⟩)
  obtain ⟨PR2, hp2⟩ : ∃ PR2, redirF T ns1 = PR2 := ⟨_, rfl⟩
  rw [hp2] at HRD
  have HR1 := hide hr1
  have HF1 := hide hf1
  unfold TPost vRdsN at HRD
  have HGD := hide hr1.good
  have HP2 := hide hp2
  clear hr1 hf1 hp2
  go_wp2_with fail
  refine HRD.out.mono ?_
  cases PR2 with
  | bad a e =>
   rintro e w2 ⟨rfl, hg⟩
   refine post_panicP rfl ?_
   rw [← HR.out, HP2.out]
   exact (⟨rfl, HF1.out.trans (HR1.out.fr_rb hg)⟩ : _ ∧ _)
  | ok l T2 ns2 =>
   obtain ⟨_, rfl, _⟩ := redirF_good HGD.out HP2.out
   rintro e w2 ⟨v, rfl, ⟨ho, hnw⟩, ⟨vt2, hr2⟩, hg⟩
   have HRX := hide (show R = .ok (m : Int) T2 (setRd ns2 m l) by rw [← HR.out, HP2.out]; rfl)
   obtain ⟨cs, hcs, _⟩ := hr2.nds
   obtain ⟨g, off, cap, rfl, hcp, _, hgl, hcc⟩ := hcs.some_ (by have := HM.out; omega)
   obtain ⟨l1, l3, rfl, _, _⟩ := Own.form ho
   have HFIN := hide (RAt.setRd_ (m := m) hr2 (by have := HM.out; omega) ho (fun b hb hk => by have h1 := hnw b hb; have h2 := HAV.out b hk; have h3 := HF1.out.size; omega))
   have HF2 := hide (HF1.out.trans (HR1.out.fr_rb hg))
   obtain ⟨e0, e1, e2⟩ := hr2.cells
   have lb2 := Blk.lt hr2.blk
   have zg := Own.frozen0 hcs (m * 8 + 5)
   obtain ⟨u5, hu5⟩ : ∃ u5, w2.cell? ⟨g, off + m * 8 + 5, none⟩ = some u5 := by
    have h5 := hcc (m * 8 + 5) (by have := HM.out; omega)
    rw [← Nat.add_assoc] at h5
    rw [h5]
    have h6 : m * 8 + 5 < cs.length := by rw [hcs.len]; have := HM.out; omega
    exact ⟨cs[m * 8 + 5], List.getElem?_eq_getElem h6⟩
   rw [← Nat.add_assoc] at zg
   obtain ⟨NL, hNL⟩ : ∃ NL, ns2.length = NL := ⟨_, rfl⟩
   have hib1 : (0 : Int) ≤ (m : Int) := by omega
   have hib2 : (m : Int) < (NL : Int) := by have := HM.out; omega
   rw [hNL] at e1 hcp
   clear ho hnw hr2 hg hcs hcc hNL
   go_wp2_with fail
   rw [HRX.out]
   go_ret
   exact ⟨_, rfl, rfl, ⟨_, _, HFIN.out.1⟩, HF2.out.trans HFIN.out.2⟩
end Go.Proofs.Ytgpfjcogaheopaa

end
section
/- A function's definition; a command. -/
namespace Go.Proofs.Ytgpfjcogaheopaa
open Go.RowKit Lx
set_option maxRecDepth 100000
/-- All that may change but block B. -/
def Bx (base : Nat → Prop) (B : Nat) : Nat → Prop := fun k => base k ∧ k ≠ B
section
variable {av : Nat → Prop} {base : Nat → Prop} {rb d B : Nat} {w w' a b : World} {vt vn v : Value} {ts : List Tok} {ns : List Nd}
theorem RIs.box (h : RIs av base w rb ts ns d) (o : Obj) (hB : w.heap.size = B) : RIs av (Bx base B) (w.alloc o) rb ts ns d := by
 subst hB
 obtain ⟨vt, vn, h⟩ := h
 obtain ⟨cs, hcs, _⟩ := h.nds
 have h1 := h.grown (only_alloc (only_refl w none) o)
 exact ⟨vt, vn, h1.blk, h1.tok, h1.nds, fun b hb => ⟨h.new b hb, by have := Own.lt hcs hb; omega⟩, ⟨⟨h.lo.at_, by have := Blk.lt h.blk; omega⟩, fun k hk => by rw [World.size_alloc] at hk; exact ⟨h.lo.up k (by omega), by omega⟩⟩, h1.good, h1.few, h1.dep, h1.txt⟩
theorem RIs.unbox (h : RIs av (Bx base B) w rb ts ns d) : RIs av base w rb ts ns d := by
 obtain ⟨vt, vn, h⟩ := h
 exact ⟨vt, vn, h.bmono fun k hk => hk.1⟩
theorem Fr.unbox (h : Fr (Bx base B) a b) : Fr base a b := h.bmono fun _k hk => hk.1
theorem Fr.keep (h : Fr (Bx base B) a b) {T : TypeId} {cs : Array Value} (hb : Blk a B T cs) : Blk b B T cs := h.low hb (fun e => e.2 rfl)
theorem RIs.farB (h : RIs av base w rb ts ns d) (hB : ¬ base B) (hT : HasT w B 33) (j : Nat) (u : Value) : RIs av base (w.setCell ⟨B, j, none⟩ u) rb ts ns d := by
 obtain ⟨vt, vn, h⟩ := h
 obtain ⟨cs, h1, h2⟩ := h.nds
 have hc : Chg (fun k => k = B) w (w.setCell ⟨B, j, none⟩ u) := Chg.setCell (S := fun k => k = B) (Chg.refl _ w) (p := ⟨B, j, none⟩) (.inl rfl) u
 have hk : ∀ {e : TypeId} {s n k : Nat} {u' : Value} {xs : List Value}, Own w e s u' n xs k → e ≠ 33 → Own (w.setCell ⟨B, j, none⟩ u) e s u' n xs k := fun ho he => ho.chg hc fun b hb e => he ((Own.hasT ho hb).uniq (e ▸ hT))
 refine ⟨vt, vn, Blk.far h.blk (p := ⟨B, j, none⟩) (fun e => hB (by have e' : rb = B := e; rw [← e']; exact h.lo.at_)) _, hk h.tok (by decide), ?_, h.new, h.lo.size (by rw [World.size_setCell]; exact Nat.le_refl _), h.good, h.few, h.dep, h.txt⟩
 refine ⟨cs, h1.far (p := ⟨B, j, none⟩) (fun e => hB (h.new B e)) _, fun i hi => ?_⟩
 obtain ⟨a, b, r, p, k, e, hn⟩ := h2 i hi
 refine ⟨a, b, r, p, k, e, hk hn.sets (by decide), hk hn.words (by decide), hk hn.rds (by decide), ?_, hk hn.kids (by decide), hn.ha, hn.hb, hn.hr, hn.hk⟩
 obtain ⟨ps, q1, q2, q3⟩ := hn.pats
 exact ⟨ps, hk q1 (by decide), q2, fun i hi => by obtain ⟨u, hu, hs, hv⟩ := q3 i hi; exact ⟨u, hu, hk hs (by decide), hv⟩⟩
/-- A store into a block that was made since. -/
theorem Fr.newB (h : Fr base a b) (hB : a.heap.size ≤ B) (j : Nat) (u : Value) : Fr base a (b.setCell ⟨B, j, none⟩ u) := h.new (p := ⟨B, j, none⟩) hB u
theorem next_g {t : Tok} {r : List Tok} (h : RIs av base w rb (t :: r) ns d) (hk : t.k ≠ 4) : Calls Try.prog 39 #[.pointer (some ⟨rb, 0, none⟩)] w (GPost vTok av base w rb d (.ok t r ns)) := by
 obtain ⟨vt, vn, h⟩ := h
 exact (next_any av base rb d vt vn t r ns w h hk).mono fun e w' hp => TPost.g h hp
theorem wrong_g {t : Tok} {r : List Tok} (h : RIs av base w rb (t :: r) ns d) : Calls Try.prog 24 #[.pointer (some ⟨rb, 0, none⟩)] w fun e w' => e = .panicked [pfault t.a (if t.k = 4 then 23 else 17)] ∧ w.grownBy w' none := by
 obtain ⟨vt, vn, h⟩ := h
 exact wrong_any av base rb d vt vn t r ns w h
theorem RIs.head (h : RIs av base w rb ts ns d) : ∃ vt vn t r g off cap, ts = t :: r ∧ vt = .slice (some ⟨g, off, none⟩) ts.length cap ∧ ts.length ≤ cap ∧ g < w.heap.size ∧ w.cell? ⟨g, off, none⟩ = some (.int .i64 t.k) ∧ w.cell? ⟨g, off + 1, none⟩ = some (.string ⟨t.t.toArray⟩) ∧ w.cell? ⟨g, off + 2, none⟩ = some (.int .i64 t.a) ∧ rb < w.heap.size ∧ w.cell? ⟨rb, 0, none⟩ = some vt ∧ w.cell? ⟨rb, 1, none⟩ = some vn ∧ RAt av base w rb vt vn ts ns d := by
 obtain ⟨vt, vn, h⟩ := h
 obtain ⟨t, r, g, off, cap, h1, h2, h3, h4, h5, h6, h7⟩ := h.head
 obtain ⟨d0, d1, _⟩ := h.cells
 exact ⟨vt, vn, t, r, g, off, cap, h1, h2, h3, h4, h5, h6, h7, Blk.lt h.blk, d0, d1, h⟩
/-- A node whose slices are another's, under another kind and name. -/
theorem NdAt.as {x y r p k : Value} {n m : Nd} (h : NdAt av w x y r p k n) (h1 : m.sets = n.sets) (h2 : m.words = n.words) (h3 : m.redirs = n.redirs) (h4 : m.pats = n.pats) (h5 : m.kids = n.kids) : NdAt av w x y r p k m := by
 refine ⟨h1 ▸ h.sets, h2 ▸ h.words, h3 ▸ h.rds, h4 ▸ h.pats, h5 ▸ h.kids, h.ha, h.hb, h.hr, h.hk⟩
end
theorem box8 {w : World} {B : Nat} {c0 c1 c2 c3 c4 c5 c6 c7 : Value} (h : Blk w B 33 #[c0, c1, c2, c3, c4, c5, c6, c7]) : w.cell? ⟨B, 0, none⟩ = some c0 ∧ w.cell? ⟨B, 1, none⟩ = some c1 ∧ w.cell? ⟨B, 2, none⟩ = some c2 ∧ w.cell? ⟨B, 3, none⟩ = some c3 ∧ w.cell? ⟨B, 4, none⟩ = some c4 ∧ w.cell? ⟨B, 5, none⟩ = some c5 ∧ w.cell? ⟨B, 6, none⟩ = some c6 ∧ w.cell? ⟨B, 7, none⟩ = some c7 ∧ B < w.heap.size :=
 ⟨Blk.cell h 0, Blk.cell h 1, Blk.cell h 2, Blk.cell h 3, Blk.cell h 4, Blk.cell h 5, Blk.cell h 6, Blk.cell h 7, Blk.lt h⟩
theorem need_yes {s : List UInt8} {ts : List Tok} {ns : List Nd} (h : isB ts s = true) : needR s ts ns = .ok () ts.tail ns := if_pos h
theorem need_no {s : List UInt8} {ts : List Tok} {ns : List Nd} (h : isB ts s = false) : needR s ts ns = wrongR ts := if_neg (by rw [h]; decide)
theorem cmpH_k {t : Tok} {r : List Tok} (h : cmpH (t :: r) = true) : t.k ≠ 4 := by
 have h' : cmpB t = true := h
 unfold cmpB at h'
 rw [Bool.or_eq_true, Bool.and_eq_true, Bool.and_eq_true] at h'
 rcases h' with h' | h'
 ·have := eq_of_beq h'.1; omega
 ·have := eq_of_beq h'.1; omega
set_option maxHeartbeats 8000000 in
theorem function_ok (n : Nat) (cmp : Drd) (hd : DecD 5 cmp) (Hp : Okp (fun ts => cmpH ts = true) 78 cmp n) : Okp (fun ts => funB ts = true) 81 (funF cmp) n := by
 intro av base rb d ts ns w hav h hn hpre
 obtain ⟨t, r, rfl⟩ := h.good.ne
 have hk1 : t.k = 1 := by
  unfold funB at hpre
  split at hpre
  ·rename_i t' u' r' e
   injection e with e1 e2
   subst e1
   rw [Bool.and_eq_true, Bool.and_eq_true, Bool.and_eq_true] at hpre
   have h1 := hpre.1.1.1
   unfold namedB at h1
   rw [Bool.and_eq_true] at h1
   exact eq_of_beq h1.1
  ·cases hpre
 have HH := hide h
 have HAV := hide hav
 have HN := hide (next_g h (by omega))
 have HFW := hide h.few
 have HD := hide (hd d)
 have HC := hide (fun av base w tt a b c e => Hp av base rb d tt ns w a b c e)
 have HNE := hide (fun av base w s tt (h : RIs av base w rb tt ns d) => need_g s h)
 have HBR := hide (fun av base w tt (h : RIs av base w rb tt ns d) => breaks_g h)
 have HWR := hide (fun av base w (t : Tok) (r : List Tok) (h : RIs av base w rb (t :: r) ns d) => wrong_g h)
 have HCM := hide (fun t W => compounds_any t W)
 have HL := hide (fun av base w ts ns n a b r p k h hn hf => lay_any av base rb d ts ns n a b r p k w h hn hf)
 show Calls Try.prog 81 #[.pointer (some ⟨rb, 0, none⟩)] w (GPost vInt av base w rb d (funF cmp d (t :: r) ns))
 unfold funF
 rw [show nmH (t :: r) = t.t from rfl, List.tail_cons]
 obtain ⟨tk, tt, ta⟩ := t
 simp only [] at hk1 ⊢
 subst hk1
 obtain ⟨R, hR⟩ : ∃ R, ((needR sPar r ns).bind fun _ tt1 ns => (needR sRap tt1 ns).bind fun _ tt1 ns => if cmpH (breaksF tt1) = true then (cmp d (breaksF tt1) ns).bind fun x tt1 ns => layR { kind := 15, name := tt, kids := [x] } tt1 ns else wrongR (breaksF tt1)) = R := ⟨_, rfl⟩
 have HR := hide hR
 rw [hR]
 unfold GPost vTok tokV sv at HN
 unfold GPost vUnit at HBR
 unfold GPost vInt layR ndCells sv at HL
 unfold GPost vInt at HC
 unfold sv at HNE
 unfold tokV sv at HCM
 have hfd := run_text
 have HNn := hide hn
 clear hR h hav hpre Hp hd hn
 go_enter Try.func81, Try.ntmps81
 go_wp2_with fail
 refine HN.out.mono ?_
 rintro e w1 ⟨v, rfl, rfl, hr1, hf1⟩
 obtain ⟨B, hB⟩ : ∃ B, w1.heap.size = B := ⟨_, rfl⟩
 have HR2 := hide (RIs.box hr1 (.cells #[.int .i64 15, .string ⟨tt.toArray⟩, .bool false, .slice none 0 0, .slice none 0 0, .slice none 0 0, .slice none 0 0, .slice none 0 0] 33) hB)
 have HBX := hide (show Blk (w1.alloc (.cells #[.int .i64 15, .string ⟨tt.toArray⟩, .bool false, .slice none 0 0, .slice none 0 0, .slice none 0 0, .slice none 0 0, .slice none 0 0] 33)) B 33 _ from by rw [← hB]; exact Blk.new w1 33 _)
 have HF2 := hide (hf1.alloc (.cells #[.int .i64 15, .string ⟨tt.toArray⟩, .bool false, .slice none 0 0, .slice none 0 0, .slice none 0 0, .slice none 0 0, .slice none 0 0] 33))
 have HBl := hide (show w.heap.size ≤ B by rw [← hB]; exact hf1.size)
 have HBl2 := hide (show B < (w1.alloc (.cells #[.int .i64 15, .string ⟨tt.toArray⟩, .bool false, .slice none 0 0, .slice none 0 0, .slice none 0 0, .slice none 0 0, .slice none 0 0] 33)).heap.size by rw [World.size_alloc]; omega)
 have hrl : r.length + 1 ≤ n := by have := HNn.out; simpa using this
 have HRL := hide hrl
 have HFWr := hide (show ns.length + 10 * r.length + 10 ≤ 100000 by have := HFW.out; simp only [List.length_cons] at this; omega)
 have hgr := hr1.good
 have HGR := hide hgr
 clear hr1 hf1 hrl hgr
 go_upto_region 2 with (fail)
 obtain ⟨w2, hw2⟩ : ∃ w2, w1.alloc (.cells #[.int .i64 15, .string ⟨tt.toArray⟩, .bool false, .slice none 0 0, .slice none 0 0, .slice none 0 0, .slice none 0 0, .slice none 0 0] 33) = w2 := ⟨_, rfl⟩
 rw [hw2] at HR2 HBX HF2 HBl2 ⊢
 clear hw2 hB
 -- need (
 have HQ := hide (HNE.out _ _ _ sPar _ HR2.out)
 unfold needR at HQ
 obtain ⟨b1, hb1⟩ : ∃ b1, isB r sPar = b1 := ⟨_, rfl⟩
 rw [hb1] at HQ
 have HB1 := hide hb1
 unfold sPar GPost vUnit at HQ
 clear hb1
 go_wp2_with fail
 refine HQ.out.mono ?_
 cases b1 with
 | false =>
  obtain ⟨t1, r1, rfl⟩ := HGR.out.ne
  rintro e w3 ⟨rfl, hf⟩
  refine post_panicP rfl ?_
  rw [← HR.out, need_no HB1.out]
  exact (⟨rfl, HF2.out.trans hf.unbox⟩ : _ ∧ _)
 | true =>
  obtain ⟨hg1, hl1⟩ := is_tail HGR.out HB1.out
  have HR1 := hide (show ((needR sRap r.tail ns).bind fun _ tt1 ns => if cmpH (breaksF tt1) = true then (cmp d (breaksF tt1) ns).bind fun x tt1 ns => layR { kind := 15, name := tt, kids := [x] } tt1 ns else wrongR (breaksF tt1)) = R by rw [← HR.out, need_yes HB1.out]; rfl)
  rintro e w3 ⟨v, rfl, rfl, hr3, hf3⟩
  have HR3 := hide hr3
  have HBX3 := hide (hf3.keep HBX.out)
  have HF3 := hide (HF2.out.trans hf3.unbox)
  obtain ⟨r1, hr1⟩ : ∃ r1, r.tail = r1 := ⟨_, rfl⟩
  rw [hr1] at hg1 hl1 HR1 HR3
  have HG1 := hide hg1
  have HL1 := hide hl1
  clear hr3 hf3 hg1 hl1 hr1
  have HQ2 := hide (HNE.out _ _ _ sRap _ HR3.out)
  unfold needR at HQ2
  obtain ⟨b2, hb2⟩ : ∃ b2, isB r1 sRap = b2 := ⟨_, rfl⟩
  rw [hb2] at HQ2
  have HB2 := hide hb2
  unfold sRap GPost vUnit at HQ2
  clear hb2
  go_wp2_with fail
  refine HQ2.out.mono ?_
  cases b2 with
  | false =>
   obtain ⟨t1, r2, rfl⟩ := HG1.out.ne
   rintro e w4 ⟨rfl, hf⟩
   refine post_panicP rfl ?_
   rw [← HR1.out, need_no HB2.out]
   exact (⟨rfl, HF3.out.trans hf.unbox⟩ : _ ∧ _)
  | true =>
   obtain ⟨hg2, hl2⟩ := is_tail HG1.out HB2.out
   have HR2' := hide (show (if cmpH (breaksF r1.tail) = true then (cmp d (breaksF r1.tail) ns).bind fun x tt1 ns => layR { kind := 15, name := tt, kids := [x] } tt1 ns else wrongR (breaksF r1.tail)) = R by rw [← HR1.out, need_yes HB2.out]; rfl)
   rintro e w4 ⟨v, rfl, rfl, hr4, hf4⟩
   have HR4 := hide hr4
   have HBX4 := hide (hf4.keep HBX3.out)
   have HF4 := hide (HF3.out.trans hf4.unbox)
   have hbk := breaks_good hg2
   have HQ := hide (HBR.out _ _ _ _ HR4.out)
   obtain ⟨r2, hr2⟩ : ∃ r2, breaksF r1.tail = r2 := ⟨_, rfl⟩
   rw [hr2] at hbk HQ HR2'
   have HL2 := hide (show r2.length + 2 ≤ r.length by have := HL1.out; omega)
   have HG2 := hide hbk.1
   clear hr4 hf4 hg2 hl2 hbk hr2
   go_wp2_with fail
   refine HQ.out.mono ?_
   rintro e w5 ⟨v, rfl, rfl, hr5, hf5⟩
   have HR5 := hide hr5
   have HBX5 := hide (hf5.keep HBX4.out)
   have HF5 := hide (HF4.out.trans hf5.unbox)
   clear hr5 hf5
   obtain ⟨vt5, vn5, t5, r5, g5, off5, cap5, rfl, rfl, hc5, hg5, c05, c15, c25, lb5, d05, d15, hra5⟩ := HR5.out.head
   have hib5 : (0 : Int) < (((t5 :: r5).length : Nat) : Int) := by simp only [List.length_cons]; omega
   have HCM5 := hide (fun W => HCM.out t5 W)
   obtain ⟨bc, hbc⟩ : ∃ bc, cmpB t5 = bc := ⟨_, rfl⟩
   rw [hbc] at HCM5
   have HBC := hide (show cmpH (t5 :: r5) = bc from hbc)
   obtain ⟨L5, hL5⟩ : ∃ L5, (t5 :: r5).length = L5 := ⟨_, rfl⟩
   rw [hL5] at d05 hib5 hc5
   clear hra5 hL5 hbc
   obtain ⟨tk5, tt5, ta5⟩ := t5
   simp only [] at c05 c15 c25 HCM5
   go_wp2_with fail
   refine (HCM5.out _).mono ?_
   rintro e w6 ⟨rfl, g6⟩
   have HR6 := hide (HR5.out.grown g6)
   have HBX6 := hide (Blk.grown HBX5.out g6 (by simp))
   have HF6 := hide (HF5.out.trans (Fr.of_grown g6))
   clear g6 d05 d15 lb5 c05 c15 c25 hg5 hc5 hib5
   cases bc with
   | false =>
    go_wp2_with fail
    refine (HWR.out _ _ _ _ _ HR6.out).mono ?_
    rintro e w7 ⟨rfl, g7⟩
    refine post_panicP rfl ?_
    rw [← HR2'.out, HBC.out]
    exact (⟨rfl, HF6.out.trans (Fr.of_grown g7)⟩ : _ ∧ _)
   | true =>
    have hav6 : ∀ k, av k → k < w6.heap.size := fun k hk => Nat.lt_of_lt_of_le (HAV.out k hk) HF6.out.size
    have HQ := hide (HC.out _ _ _ _ hav6 HR6.out (by have := HL2.out; have := HRL.out; omega) HBC.out)
    obtain ⟨PQ, hpq⟩ : ∃ PQ, cmp d (⟨tk5, tt5, ta5⟩ :: r5) ns = PQ := ⟨_, rfl⟩
    rw [hpq] at HQ
    have HPQ := hide hpq
    have HR7 := hide (show (PQ.bind fun x tt1 ns => layR { kind := 15, name := tt, kids := [x] } tt1 ns) = R by rw [← HR2'.out, HBC.out, HPQ.out]; rfl)
    clear hpq hav6
    go_wp2_with fail
    refine HQ.out.mono ?_
    cases PQ with
    | bad a e =>
     rintro e w7 ⟨rfl, hf⟩
     refine post_panicP rfl ?_
     rw [← HR7.out]
     exact (⟨rfl, HF6.out.trans hf.unbox⟩ : _ ∧ _)
    | ok x T ns1 =>
     rintro e w7 ⟨v, rfl, rfl, hr7, hf7⟩
     have hl := HD.out _ _ _ _ _ HG2.out HPQ.out
     have HFE := hide (show ns1.length + 1 + 10 * T.length ≤ 100000 by have h1 := hl.few; have h2 := HL2.out; have h3 := HFWr.out; omega)
     have hbx7 := hf7.keep HBX6.out
     have hr8 := hr7.grown (only_alloc (only_refl w7 none) (.cells #[.int .i64 x] 3))
     have hbx8 := hbx7.alloc (.cells #[.int .i64 x] 3)
     have hT8 := hbx8.hasT
     have hr9 := hr8.farB (fun e => e.2 rfl) hT8 7 (.slice (some ⟨w7.heap.size, 0, none⟩) 1 1)
     have hbx9 : Blk _ B 33 #[.int .i64 15, .string ⟨tt.toArray⟩, .bool false, .slice none 0 0, .slice none 0 0, .slice none 0 0, .slice none 0 0, .slice (some ⟨w7.heap.size, 0, none⟩) 1 1] := Blk.set_ hbx8 7 (.slice (some ⟨w7.heap.size, 0, none⟩) 1 1)
     have hf9 : Fr base w ((w7.alloc (.cells #[.int .i64 x] 3)).setCell ⟨B, 7, none⟩ (.slice (some ⟨w7.heap.size, 0, none⟩) 1 1)) := Fr.newB ((HF6.out.trans hf7.unbox).alloc _) HBl.out 7 _
     have lB8 := Blk.lt hbx8
     have z8 := Blk.frozen hbx8 7
     have y8 : (w7.alloc (.cells #[.int .i64 x] 3)).cell? ⟨B, 7, none⟩ = some (.slice none 0 0) := Blk.cell hbx8 7
     have hkb : Blk ((w7.alloc (.cells #[.int .i64 x] 3)).setCell ⟨B, 7, none⟩ (.slice (some ⟨w7.heap.size, 0, none⟩) 1 1)) w7.heap.size 3 #[.int .i64 x] := Blk.far (Blk.new w7 3 _) (p := ⟨B, 7, none⟩) (by have := Blk.lt hbx7; show w7.heap.size ≠ B; omega) _
     have hnd := hide (NdAt.as (m := { kind := 15, name := tt, kids := [x] }) (ndKids (av := av) (l := [x]) (by simp) hkb (fun k hk => Nat.lt_of_lt_of_le (HAV.out k hk) (HF6.out.trans hf7.unbox).size) 15 (by simp)) rfl rfl rfl rfl rfl)
     have HR9 := hide hr9
     have HBX9 := hide hbx9
     have HF9 := hide hf9
     have HLc := hide (HL.out _ _ _ _ _ _ _ _ _ _ _ HR9.out hnd.out HFE.out)
     clear hr7 hf7 hl hbx7 hr8 hbx8 hT8 hr9 hbx9 hf9 hkb
     go_upto_region 8 with (fail)
     generalize (w7.alloc (.cells #[.int .i64 x] 3)).setCell ⟨B, 7, none⟩ (.slice (some ⟨w7.heap.size, 0, none⟩) 1 1) = w9 at HR9 HBX9 HF9 HLc hnd ⊢
     obtain ⟨x0, x1, x2, x3, x4, x5, x6, x7, lB9⟩ := box8 HBX9.out
     clear z8 y8 lB8
     go_wp2_with fail
     refine HLc.out.mono ?_
     rintro e wl ⟨v, rfl, rfl, hrl, hfl⟩
     have HRl := hide hrl.unbox
     have HFl := hide (HF9.out.trans hfl.unbox)
     clear hrl hfl x0 x1 x2 x3 x4 x5 x6 x7 lB9
     go_wp2_with fail
     rw [← HR7.out]
     go_ret
     exact ⟨_, rfl, rfl, HRl.out, HFl.out⟩
set_option maxHeartbeats 8000000 in
theorem command_ok (n : Nat) (cmp : Drd) (hd : DecD 5 cmp) (Hp : Okp (fun ts => cmpH ts = true) 78 cmp n) : Okc 65 (cmdF cmp) n := by
 have Hf := function_ok n cmp hd Hp
 intro av base rb d ts ns w hav h hn
 have HH := hide h
 have HAV := hide hav
 have HFN := hide (within_ok _ n _ (funF cmp) (fun _ _ => rfl) Hf)
 have HCM := hide (fun t W => compounds_any t W)
 have HNM := hide (fun t W h => named_any t W h)
 have HRS := hide (fun s W => reserved_any s W)
 have hmf : ∀ (fn : Fn) (first cap : Array Value) (w : World), (Instr.makeFunc fn first cap).run Try.prog w = .ok (.func fn first cap) w := fun _ _ _ _ => rfl
 have HC := hide (fun w a b c e => Hp av base rb d ts ns w a b c e)
 have HSI := hide (fun w a b => sim_any av base rb d ts ns w a b)
 show Calls Try.prog 65 #[.pointer (some ⟨rb, 0, none⟩)] w (GPost vInt av base w rb d (cmdF cmp d ts ns))
 unfold cmdF
 have hgd := h.good
 obtain ⟨vt, vn, t, r, g, off, cap, rfl, rfl, hc, hg, c0, c1, c2, lb, d0, d1, hra⟩ := h.head
 have HRA := hide hra
 have hib : (0 : Int) < (((t :: r).length : Nat) : Int) := by simp only [List.length_cons]; omega
 have HCM0 := hide (fun W => HCM.out t W)
 have htx := (hra.txt t (List.mem_cons_self ..)).1
 have HNM0 := hide (fun W => HNM.out t W (by omega))
 have HRS0 := hide (fun W => HRS.out t.t W)
 obtain ⟨bc, hbc⟩ : ∃ bc, cmpB t = bc := ⟨_, rfl⟩
 rw [hbc] at HCM0
 have HBC := hide (show cmpH (t :: r) = bc from hbc)
 obtain ⟨bn, hbn⟩ : ∃ bn, namedB t = bn := ⟨_, rfl⟩
 rw [hbn] at HNM0
 have HBN := hide hbn
 obtain ⟨br, hbr⟩ : ∃ br, resB t.t = br := ⟨_, rfl⟩
 rw [hbr] at HRS0
 have HBR := hide hbr
 unfold tokV sv at HCM0 HNM0
 unfold sv at HRS0
 have HNn := hide hn
 have HGD := hide hgd
 obtain ⟨L, hL⟩ : ∃ L, (t :: r).length = L := ⟨_, rfl⟩
 have HLx := hide hL
 rw [hL] at d0 hib hc
 clear hav h hra hbc hbn hbr hn hgd htx hL Hf Hp hd
 cases bc with
 | true =>
  rw [if_pos HBC.out]
  have HCx := hide (HC.out w HAV.out HH.out HNn.out HBC.out)
  obtain ⟨PQ, hpq⟩ : ∃ PQ, cmp d (t :: r) ns = PQ := ⟨_, rfl⟩
  rw [hpq]
  have HPQ := hide hpq
  clear hpq HCx
  obtain ⟨tk, tt, ta⟩ := t
  simp only [] at c0 c1 c2 HCM0
  go_enter Try.func65, Try.ntmps65
  go_wp2_with fail
  refine (HCM0.out _).mono ?_
  rintro e w1 ⟨rfl, g1⟩
  have HG1 := hide (none_trans (only_alloc (only_refl w none) _) g1)
  have HCy := hide (HC.out w1 (fun k hk => Nat.lt_of_lt_of_le (HAV.out k hk) HG1.out.size) (HH.out.grown HG1.out) HNn.out HBC.out)
  rw [HPQ.out] at HCy
  clear g1
  go_wp2_with fail
  refine HCy.out.mono ?_
  cases PQ with
  | bad a e =>
   unfold GPost
   rintro e w2 ⟨rfl, hf⟩
   exact post_panicP rfl ⟨rfl, (Fr.of_grown HG1.out).trans hf⟩
  | ok x T ns1 =>
   unfold GPost vInt
   rintro e w2 ⟨v, rfl, rfl, hr2, hf2⟩
   have HR2 := hide hr2
   have HF2 := hide ((Fr.of_grown HG1.out).trans hf2)
   clear hr2 hf2
   go_wp2_with fail
   go_ret
   exact ⟨_, rfl, rfl, HR2.out, HF2.out⟩
 | false =>
  rw [if_neg (by rw [HBC.out]; decide)]
  obtain ⟨R, hR⟩ : ∃ R, (if funB (t :: r) = true then withinF (funF cmp) d (t :: r) ns else simF (t :: r) ns) = R := ⟨_, rfl⟩
  have HR := hide hR
  rw [hR]
  clear hR
  have hfb : funB (t :: r) = (bn && (!br && (match r with | u :: _ => (u.k == 2 && u.t == sPar) | [] => false))) := by
   cases r with
   | nil => simp [funB]
   | cons u r => simp [funB, HBN.out, HBR.out, Bool.and_assoc]
  have HFB := hide hfb
  clear hfb
  have HNK := hide (show bn = true → t.k = 1 from fun e => by
   have h1 := HBN.out
   rw [e] at h1
   unfold namedB at h1
   rw [Bool.and_eq_true] at h1
   exact eq_of_beq h1.1)
  have hsplit : ∀ u r', r = u :: r' → (w.cell? ⟨g, off + 3, none⟩ = some (.int .i64 u.k) ∧ w.cell? ⟨g, off + 4, none⟩ = some (.string ⟨u.t.toArray⟩)) := fun u r' e => by
   subst e
   have := HRA.out.two
   exact ⟨this.1, this.2.1⟩
  have HSP := hide hsplit
  clear hsplit
  have HTX := hide (by have := HRA.out; exact (this : RAt av base w rb _ vn (t :: r) ns d))
  obtain ⟨tk, tt, ta⟩ := t
  simp only [] at c0 c1 c2 HCM0 HNM0 HRS0
  go_enter Try.func65, Try.ntmps65
  go_wp2_with fail
  refine (HCM0.out _).mono ?_
  rintro e w1 ⟨rfl, g1⟩
  obtain ⟨x0, x1, x2, lx⟩ := box41 (t := ⟨tk, tt, ta⟩) g1
  simp only [] at x0 x1 x2
  have HX1 := hide g1
  have HG1 := hide (none_trans (only_alloc (only_refl w none) _) g1)
  obtain ⟨bt, hbt⟩ : ∃ bt, w.heap.size = bt := ⟨_, rfl⟩
  rw [hbt] at x0 x1 x2 lx
  clear g1 d0 d1 lb c0 c1 c2 hg hc
  go_upto_region 4 with (fail)
  go_cut [15] (fun v15 wx => v15 = .bool (funB (⟨tk, tt, ta⟩ :: r)) ∧ w.grownBy wx none)
  case first =>
   go_wp2_with fail
   refine (HNM0.out _).mono ?_
   rintro e w2 ⟨rfl, g2⟩
   have HG2 := hide (none_trans HG1.out g2)
   obtain ⟨x0', x1', x2', lx'⟩ := box41 (t := ⟨tk, tt, ta⟩) (none_trans HX1.out g2)
   simp only [] at x0' x1' x2'
   rw [hbt] at x0' x1' x2' lx'
   have HX2 := hide (none_trans HX1.out g2)
   clear g2 x0 x1 x2 lx
   cases bn with
   | false =>
    go_wp2_with fail
    go_meet
    exact ⟨by rw [HFB.out]; rfl, HG2.out⟩
   | true =>
    go_wp2_with fail
    refine (HRS0.out _).mono ?_
    rintro e w3 ⟨rfl, g3⟩
    have HG3 := hide (none_trans HG2.out g3)
    cases br with
    | true =>
     go_wp2_with fail
     go_meet
     exact ⟨by rw [HFB.out]; rfl, HG3.out⟩
    | false =>
     obtain ⟨u, r', rfl⟩ := (HGD.out.tail (by have : tk = 1 := (by first | exact HNK.out rfl | exact HNK.out trivial); show tk ≠ 4; omega)).ne
     obtain ⟨p0, p1⟩ := HSP.out u r' rfl
     have hgl := Own.lt HTX.out.tok (by rfl)
     have q0 := old_cell HG3.out hgl p0
     have q1 := old_cell HG3.out hgl p1
     have hra3 := HTX.out.grown HG3.out
     obtain ⟨e0, e1, _⟩ := hra3.cells
     have lb3 := Blk.lt hra3.blk
     have hcap := HTX.out.tok.form
     have hib2 : (1 : Int) < (L : Int) := by rw [← HLx.out]; simp only [List.length_cons]; omega
     have hgl3 := Nat.lt_of_lt_of_le hgl HG3.out.size
     rw [HLx.out] at e0
     obtain ⟨uk, ut, ua⟩ := u
     simp only [] at q0 q1 HFB
     clear p0 p1 hra3 hcap g3 x0' x1' x2' lx'
     by_cases k2 : uk = 2
     ·subst k2
      by_cases hp : ut = [40]
      ·subst hp
       go_wp2_with fail
       go_meet
       exact ⟨by rw [HFB.out]; rfl, HG3.out⟩
      ·have hpb : (ut == [40]) = false := beq_eq_false_iff_ne.2 hp
       have HV := hide (show funB (⟨tk, tt, ta⟩ :: ⟨2, ut, ua⟩ :: r') = false by rw [HFB.out]; simp only [sPar, hpb]; rfl)
       go_wp2_with fail
       go_meet
       exact ⟨by rw [HV.out], HG3.out⟩
     ·have hkb : ((uk : Int) == 2) = false := by rw [beq_eq_false_iff_ne]; omega
      have HV := hide (show funB (⟨tk, tt, ta⟩ :: ⟨uk, ut, ua⟩ :: r') = false by rw [HFB.out]; simp only [show (uk == 2) = false from beq_eq_false_iff_ne.2 k2]; rfl)
      go_wp2_with fail
      go_meet
      exact ⟨by rw [HV.out], HG3.out⟩
  case rest =>
   obtain ⟨rfl, hg9⟩ := hcut
   have HG9 := hide hg9
   have HAV9 := hide (fun k (hk : av k) => Nat.lt_of_lt_of_le (HAV.out k hk) HG9.out.size)
   have HH9 := hide (HH.out.grown HG9.out)
   obtain ⟨fb, hfb⟩ : ∃ fb, funB (⟨tk, tt, ta⟩ :: r) = fb := ⟨_, rfl⟩
   have HFx := hide hfb
   simp only [hfb]
   clear hg9 hfb x0 x1 x2 lx hbt
   cases fb with
   | true =>
    have HQ := hide (HFN.out av base rb d _ ns wc HAV9.out HH9.out HNn.out HFx.out)
    have HRX := hide (show withinF (funF cmp) d (⟨tk, tt, ta⟩ :: r) ns = R from (if_pos HFx.out).symm.trans HR.out)
    rw [HRX.out] at HQ
    unfold fv at HQ
    go_wp2_with fail
    refine HQ.out.mono ?_
    cases R with
    | bad a e =>
     unfold GPost
     rintro e w2 ⟨rfl, hf⟩
     exact post_panicP rfl ⟨rfl, (Fr.of_grown HG9.out).trans hf⟩
    | ok x T ns1 =>
     unfold GPost vInt
     rintro e w2 ⟨v, rfl, rfl, hr2, hf2⟩
     have HR2 := hide hr2
     have HF2 := hide ((Fr.of_grown HG9.out).trans hf2)
     clear hr2 hf2
     go_wp2_with fail
     go_ret
     exact ⟨_, rfl, rfl, HR2.out, HF2.out⟩
   | false =>
    have HQ := hide (HSI.out wc HAV9.out HH9.out)
    have HRX := hide (show simF (⟨tk, tt, ta⟩ :: r) ns = R from (if_neg (by rw [HFx.out]; decide)).symm.trans HR.out)
    rw [HRX.out] at HQ
    go_wp2_with fail
    refine HQ.out.mono ?_
    cases R with
    | bad a e =>
     unfold GPost
     rintro e w2 ⟨rfl, hf⟩
     exact post_panicP rfl ⟨rfl, (Fr.of_grown HG9.out).trans hf⟩
    | ok x T ns1 =>
     unfold GPost vInt
     rintro e w2 ⟨v, rfl, rfl, hr2, hf2⟩
     have HR2 := hide hr2
     have HF2 := hide ((Fr.of_grown HG9.out).trans hf2)
     clear hr2 hf2
     go_wp2_with fail
     go_ret
     exact ⟨_, rfl, rfl, HR2.out, HF2.out⟩
end Go.Proofs.Ytgpfjcogaheopaa

end
