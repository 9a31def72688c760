/- The parser's next, take, need, breaks. -/
import Derived.Test.YtgpfjcogaheopaaPE2
import Derived.Deep.LoopGhost
set_option linter.all false
namespace Go.Proofs.Ytgpfjcogaheopaa
open Go.RowKit Lx
set_option maxRecDepth 100000

section
variable {av : Nat → Prop} {base : Nat → Prop} {rb d : Nat} {w w' : World} {vt vn : Value} {ts : List Tok} {ns : List Nd}
theorem NdS.far {v u : Value} {p : Addr} (h : NdS av w v ns) (hb : base p.block) (ht : HasT w p.block 54) : NdS av (w.setCell p u) v ns := by
  obtain ⟨cs, h1, h2⟩ := h
  have hf : Fr base w (w.setCell p u) := (Fr.refl base w).set hb (.inl ht) u
  refine ⟨cs, h1.far (fun e => ?_) u, fun i hi => ?_⟩
  · have := (h1.hasT e).uniq ht
    exact absurd this (by decide)
  · obtain ⟨x, y, r, p', k, e, hn⟩ := h2 i hi
    exact ⟨x, y, r, p', k, e, hn.fr hf⟩
theorem RAt.step {t : Tok} {r : List Tok} {g off L cap : Nat} (h : RAt av base w rb (.slice (some ⟨g, off, none⟩) L cap) vn (t :: r) ns d) (hL : (t :: r).length = L) (hk : t.k ≠ 4) :
    RAt av base (w.setCell ⟨rb, 0, none⟩ (.slice (some ⟨g, off + 3, none⟩) (L - 1) (cap - 1))) rb (.slice (some ⟨g, off + 3, none⟩) (L - 1) (cap - 1)) vn r ns d := by
  subst hL
  have hf := Own.from_ h.tok 1 (by simp)
  have hd : (tcs (t :: r)).drop (1 * 3) = tcs r := rfl
  rw [hd] at hf
  have hlen : (t :: r).length - 1 = r.length := rfl
  rw [hlen] at hf ⊢
  have hne : (Value.slice (some ⟨g, off + 3, none⟩) r.length (cap - 1)).ownBlock ≠ some rb := fun e => by
    have := (Own.hasT (w := w) hf e).uniq h.blk.hasT
    exact absurd this (by decide)
  refine ⟨Blk.set_ h.blk 0 _, (hf.mono (Nat.zero_le _)).far (p := ⟨rb, 0, none⟩) hne _, h.nds.far (p := ⟨rb, 0, none⟩) h.lo.at_ h.blk.hasT, h.new, h.lo.size (by rw [World.size_setCell]; exact Nat.le_refl _), h.good.tail hk, ?_, h.dep, fun x hx => h.txt x (List.mem_cons_of_mem _ hx)⟩
  have := h.few
  simp only [List.length_cons] at this
  omega
theorem RAt.fr_set (h : RAt av base w rb vt vn ts ns d) (j : Nat) (u : Value) : Fr base w (w.setCell ⟨rb, j, none⟩ u) := (Fr.refl base w).set (p := ⟨rb, j, none⟩) h.lo.at_ (.inl h.blk.hasT) u
end
def vTok : World → Tok → Value → Prop := fun _ t v => v = tokV t
def nextR (ts : List Tok) (ns : List Nd) : PR Tok := match ts with
  | t :: r => .ok t r ns
  | [] => .bad 0 0
set_option maxHeartbeats 4000000 in
theorem next_any (av : Nat → Prop) (base : Nat → Prop) (rb d : Nat) (vt vn : Value) (t : Tok) (r : List Tok) (ns : List Nd) (w : World) (h : RAt av base w rb vt vn (t :: r) ns d) (hk : t.k ≠ 4) :
    Calls Try.prog 39 #[.pointer (some ⟨rb, 0, none⟩)] w (TPost vTok av base w rb vn d (.ok t r ns)) := by
  obtain ⟨t0, r0, g, off, cap, he, rfl, hc, hg, c0, c1, c2⟩ := h.head
  injection he with he1 he2
  subst he1 he2
  obtain ⟨d0, d1, d2⟩ := h.cells
  have lb := Blk.lt h.blk
  have z0 := Blk.frozen h.blk 0
  have hg2 := (h.good.tail hk).pos
  have hlen : (t :: r).length = r.length + 1 := rfl
  obtain ⟨L, hL⟩ : ∃ L, (t :: r).length = L := ⟨_, rfl⟩
  have HST := hide (RAt.step (by rw [← hL]; exact h) hL hk)
  rw [hL] at d0 hc hlen
  have hib : (0 : Int) < (L : Int) := by omega
  have hi1 : (1 : Int) ≤ (L : Int) := by omega
  have hi2 : ¬ (cap = 1) := by omega
  have hLL : 1 ≤ L := by omega
  have hcc : 1 < cap := by omega
  unfold TPost vTok tokV TIs
  clear h hL hk hlen hg2
  obtain ⟨tk, tt, ta⟩ := t
  simp only [] at c0 c1 c2
  go_enter Try.func39, Try.ntmps39
  go_wp2_with fail
  refine bodyPost_ret (v := .agg #[.int .i64 tk, .string ⟨tt.toArray⟩, .int .i64 ta]) (by simp [results, Try.results39, go_sem]) rfl ?_
  exact ⟨_, rfl, rfl, ⟨_, HST.out.grown (only_alloc (only_alloc (only_refl _ none) _) _)⟩, only_alloc (only_alloc (only_setCell (only_refl w (some rb)) (p := ⟨rb, 0, none⟩) (.inl rfl) _) _) _⟩
def vBool : World → Bool → Value → Prop := fun _ b v => v = .bool b
theorem TIs.grown {av : Nat → Prop} {base : Nat → Prop} {rb d : Nat} {w w' : World} {vn : Value} {ts : List Tok} {ns : List Nd} (h : TIs av base w rb vn ts ns d) (hg : w.grownBy w' none) : TIs av base w' rb vn ts ns d := by
  obtain ⟨vt, h⟩ := h
  exact ⟨vt, h.grown hg⟩
theorem TIs.good {av : Nat → Prop} {base : Nat → Prop} {rb d : Nat} {w : World} {vn : Value} {ts : List Tok} {ns : List Nd} (h : TIs av base w rb vn ts ns d) : Good ts := by
  obtain ⟨vt, h⟩ := h
  exact h.good
theorem RIs.grown {av : Nat → Prop} {base : Nat → Prop} {rb d : Nat} {w w' : World} {ts : List Tok} {ns : List Nd} (h : RIs av base w rb ts ns d) (hg : w.grownBy w' none) : RIs av base w' rb ts ns d := by
  obtain ⟨vt, vn, h⟩ := h
  exact ⟨vt, vn, h.grown hg⟩
theorem RIs.good {av : Nat → Prop} {base : Nat → Prop} {rb d : Nat} {w : World} {ts : List Tok} {ns : List Nd} (h : RIs av base w rb ts ns d) : Good ts := by
  obtain ⟨vt, vn, h⟩ := h
  exact h.good
theorem rb_none {a b : World} {rb : Nat} (h : a.grownBy b none) : a.grownBy b (some rb) := only_of_none h _
theorem rb_trans {a b c : World} {rb : Nat} (h : a.grownBy b (some rb)) (k : b.grownBy c (some rb)) : a.grownBy c (some rb) := only_trans h k
set_option maxHeartbeats 4000000 in
theorem take_any (av : Nat → Prop) (base : Nat → Prop) (rb d : Nat) (vn : Value) (ts : List Tok) (ns : List Nd) (s : List UInt8) (w : World) (h : TIs av base w rb vn ts ns d) :
    Calls Try.prog 41 #[.pointer (some ⟨rb, 0, none⟩), sv s] w (TPost vBool av base w rb vn d (.ok (isB ts s) (takeT ts s) ns)) := by
  have hgd := h.good
  obtain ⟨t, r, rfl⟩ := hgd.ne
  have HR := hide h
  have Hs := hide (fun W (hW : TIs av base W rb vn (t :: r) ns d) => (show Calls Try.prog 38 #[.pointer (some ⟨rb, 0, none⟩), sv s] W fun e w' => e = .returned (.bool (sgnB (t :: r) s)) ∧ W.grownBy w' none by obtain ⟨vt, hW⟩ := hW; exact sign_any av base rb d vt vn _ ns s W hW))
  have Hw := hide (fun W (hW : TIs av base W rb vn (t :: r) ns d) => (show Calls Try.prog 55 #[.pointer (some ⟨rb, 0, none⟩), sv s] W fun e w' => e = .returned (.bool (wrdB (t :: r) s)) ∧ W.grownBy w' none by obtain ⟨vt, hW⟩ := hW; exact word_any av base rb d vt vn _ ns s W hW))
  have Hn := hide (fun W (hW : TIs av base W rb vn (t :: r) ns d) (hk : t.k ≠ 4) => (show Calls Try.prog 39 #[.pointer (some ⟨rb, 0, none⟩)] W (TPost vTok av base W rb vn d (.ok t r ns)) by obtain ⟨vt, hW⟩ := hW; exact next_any av base rb d vt vn t r ns W hW hk))
  have HI := hide (show isB (t :: r) s = (sgnB (t :: r) s || wrdB (t :: r) s) from rfl)
  have HK := hide (fun (hb : isB (t :: r) s = true) => (is_k hb).1)
  have HT := hide (fun (hb : isB (t :: r) s = true) => (show takeT (t :: r) s = r by unfold takeT; rw [hb]; rfl))
  have HF := hide (fun (hb : isB (t :: r) s = false) => (show takeT (t :: r) s = t :: r by unfold takeT; rw [hb]; rfl))
  unfold TPost vTok at Hn
  unfold TPost vBool
  unfold sv at Hs Hw ⊢
  obtain ⟨a, ha⟩ : ∃ a, sgnB (t :: r) s = a := ⟨_, rfl⟩
  obtain ⟨b, hb⟩ : ∃ b, wrdB (t :: r) s = b := ⟨_, rfl⟩
  rw [ha] at Hs HI
  rw [hb] at Hw HI
  obtain ⟨c, hc⟩ : ∃ c, isB (t :: r) s = c := ⟨_, rfl⟩
  rw [hc] at HI HK HT HF ⊢
  obtain ⟨T, hT⟩ : ∃ T, takeT (t :: r) s = T := ⟨_, rfl⟩
  rw [hT] at HT HF ⊢
  clear h hgd ha hb hc hT
  cases a with
  | true =>
    obtain rfl : c = true := HI.out
    obtain rfl : T = r := HT.out rfl
    go_enter Try.func41, Try.ntmps41
    go_wp2_with fail
    refine (Hs.out _ HR.out).mono ?_
    rintro e w1 ⟨rfl, g1⟩
    have HR1 := hide (HR.out.grown g1)
    have HG1 := hide g1
    clear g1
    go_wp2_with fail
    refine (Hn.out _ HR1.out (HK.out trivial)).mono ?_
    rintro e w2 ⟨v, rfl, rfl, hr2, hf2⟩
    have HR2 := hide hr2
    have HF2 := hide (rb_trans (rb_none HG1.out) hf2)
    clear hr2 hf2
    go_wp2_with fail
    go_ret
    exact ⟨_, rfl, rfl, HR2.out, HF2.out⟩
  | false =>
    cases b with
    | true =>
      obtain rfl : c = true := HI.out
      obtain rfl : T = r := HT.out rfl
      go_enter Try.func41, Try.ntmps41
      go_wp2_with fail
      refine (Hs.out _ HR.out).mono ?_
      rintro e w1 ⟨rfl, g1⟩
      have HR1 := hide (HR.out.grown g1)
      have HG1 := hide g1
      clear g1
      go_wp2_with fail
      refine (Hw.out _ HR1.out).mono ?_
      rintro e w1b ⟨rfl, g1b⟩
      have HR1b := hide (HR1.out.grown g1b)
      have HG1b := hide (none_trans HG1.out g1b)
      clear g1b
      go_wp2_with fail
      refine (Hn.out _ HR1b.out (HK.out trivial)).mono ?_
      rintro e w2 ⟨v, rfl, rfl, hr2, hf2⟩
      have HR2 := hide hr2
      have HF2 := hide (rb_trans (rb_none HG1b.out) hf2)
      clear hr2 hf2
      go_wp2_with fail
      go_ret
      exact ⟨_, rfl, rfl, HR2.out, HF2.out⟩
    | false =>
      obtain rfl : c = false := HI.out
      obtain rfl : T = t :: r := HF.out rfl
      go_enter Try.func41, Try.ntmps41
      go_wp2_with fail
      refine (Hs.out _ HR.out).mono ?_
      rintro e w1 ⟨rfl, g1⟩
      have HR1 := hide (HR.out.grown g1)
      have HG1 := hide g1
      clear g1
      go_wp2_with fail
      refine (Hw.out _ HR1.out).mono ?_
      rintro e w1b ⟨rfl, g1b⟩
      have HR1b := hide (HR1.out.grown g1b)
      have HG1b := hide (none_trans HG1.out g1b)
      clear g1b
      go_wp2_with fail
      go_ret
      exact ⟨_, rfl, rfl, HR1b.out, rb_none HG1b.out⟩
set_option maxHeartbeats 4000000 in
theorem need_any (av : Nat → Prop) (base : Nat → Prop) (rb d : Nat) (vn : Value) (ts : List Tok) (ns : List Nd) (s : List UInt8) (w : World) (h : TIs av base w rb vn ts ns d) :
    Calls Try.prog 92 #[.pointer (some ⟨rb, 0, none⟩), sv s] w (TPost vUnit av base w rb vn d (needR s ts ns)) := by
  have hgd := h.good
  obtain ⟨t, r, rfl⟩ := hgd.ne
  have HR := hide h
  have Ht := hide (fun W (hW : TIs av base W rb vn (t :: r) ns d) => take_any av base rb d vn _ ns s W hW)
  have Hw := hide (fun W (hW : TIs av base W rb vn (t :: r) ns d) => (show Calls Try.prog 24 #[.pointer (some ⟨rb, 0, none⟩)] W fun e w' => e = .panicked [pfault t.a (if t.k = 4 then 23 else 17)] ∧ W.grownBy w' none by obtain ⟨vt, hW⟩ := hW; exact wrong_any av base rb d vt vn t r ns W hW))
  unfold TPost vBool at Ht
  unfold needR
  obtain ⟨c, hc⟩ : ∃ c, isB (t :: r) s = c := ⟨_, rfl⟩
  have HT := hide (fun (hb : c = true) => (show takeT (t :: r) s = r by unfold takeT; rw [hc, hb]; rfl))
  have HF := hide (fun (hb : c = false) => (show takeT (t :: r) s = t :: r by unfold takeT; rw [hc, hb]; rfl))
  rw [hc] at Ht ⊢
  obtain ⟨T, hT⟩ : ∃ T, takeT (t :: r) s = T := ⟨_, rfl⟩
  rw [hT] at HT HF Ht
  unfold sv at Ht ⊢
  clear h hgd hc hT
  cases c with
  | true =>
    obtain rfl : T = r := HT.out rfl
    rw [if_pos rfl]
    unfold TPost vUnit
    simp only [List.tail_cons]
    go_enter Try.func92, Try.ntmps92
    go_wp2_with fail
    refine (Ht.out _ HR.out).mono ?_
    rintro e w1 ⟨v, rfl, rfl, hr, hf⟩
    have HR1 := hide hr
    have HF1 := hide hf
    clear hr hf
    go_wp2_with fail
    refine bodyPost_end (results_none rfl _ _ _) rfl ⟨_, rfl, rfl, HR1.out, HF1.out⟩
  | false =>
    obtain rfl : T = t :: r := HF.out rfl
    rw [if_neg (by decide)]
    unfold wrongR TPost
    simp only []
    go_enter Try.func92, Try.ntmps92
    go_wp2_with fail
    refine (Ht.out _ HR.out).mono ?_
    rintro e w1 ⟨v, rfl, rfl, hr, hf⟩
    have HR1 := hide hr
    have HF1 := hide hf
    clear hr hf
    go_wp2_with fail
    refine (Hw.out _ HR1.out).mono ?_
    rintro e w2 ⟨rfl, g2⟩
    exact post_panicP rfl ⟨rfl, rb_trans HF1.out (rb_none g2)⟩
set_option maxHeartbeats 4000000 in
theorem breaks_any (av : Nat → Prop) (base : Nat → Prop) (rb d : Nat) (vn : Value) (ts : List Tok) (ns : List Nd) (w : World) (h : TIs av base w rb vn ts ns d) :
    Calls Try.prog 22 #[.pointer (some ⟨rb, 0, none⟩)] w (TPost vUnit av base w rb vn d (.ok () (breaksF ts) ns)) := by
  have HR := hide h
  have Hs := hide (fun W ts (hW : TIs av base W rb vn ts ns d) => (show Calls Try.prog 38 #[.pointer (some ⟨rb, 0, none⟩), sv sLf] W fun e w' => e = .returned (.bool (sgnB ts sLf)) ∧ W.grownBy w' none by obtain ⟨vt, hW⟩ := hW; exact sign_any av base rb d vt vn _ ns sLf W hW))
  have Hn := hide (fun W t r (hW : TIs av base W rb vn (t :: r) ns d) (hk : t.k ≠ 4) => (show Calls Try.prog 39 #[.pointer (some ⟨rb, 0, none⟩)] W (TPost vTok av base W rb vn d (.ok t r ns)) by obtain ⟨vt, hW⟩ := hW; exact next_any av base rb d vt vn t r ns W hW hk))
  unfold TPost vTok at Hn
  unfold TPost vUnit
  unfold sLf sv at Hs
  obtain ⟨B, hB⟩ : ∃ B, breaksF ts = B := ⟨_, rfl⟩
  rw [hB]
  have HB := hide hB
  clear h hB
  go_enter Try.func22, Try.ntmps22
  go_wp2_with fail
  go_loopg [] ts.length (fun g wr => ∃ T, breaksF T = B ∧ T.length ≤ g ∧ TIs av base wr rb vn T ns d ∧ w.grownBy wr (some rb))
  case atStart => exact ⟨ts, HB.out, Nat.le_refl _, HR.out, only_refl w _⟩
  case round =>
    obtain ⟨T, hT, hg, hr, hf⟩ := hrel
    obtain ⟨t, r, rfl⟩ := hr.good.ne
    have HT := hide hT
    have HRr := hide hr
    have HFr := hide hf
    have HG := hide hg
    clear hT hr hf hg
    obtain ⟨c, hc⟩ : ∃ c, sgnB (t :: r) [10] = c := ⟨_, rfl⟩
    have Hc := hide hc
    cases c with
    | true =>
      have HK := hide (sgn_k hc).1
      have HT2 := hide (show breaksF r = B by
        rw [← HT.out]
        show _ = (if _ then _ else _)
        rw [if_pos (show (t.k == 2 && t.t == sLf) = true from hc)])
      have Hsg := hide (fun W hW => by have := Hs.out W (t :: r) hW; rw [hc] at this; exact this)
      clear hc
      go_wp2_with fail
      refine (Hsg.out _ HRr.out).mono ?_
      rintro e w1 ⟨rfl, g1⟩
      have HR1 := hide (HRr.out.grown g1)
      have HF1 := hide (rb_trans HFr.out (rb_none g1))
      clear g1
      go_wp2_with fail
      refine (Hn.out _ t r HR1.out (by have := HK.out; omega)).mono ?_
      rintro e w2 ⟨v, rfl, rfl, hr2, hf2⟩
      have HR2 := hide hr2
      have HF2 := hide (rb_trans HF1.out hf2)
      clear hr2 hf2
      go_wp2_with fail
      go_roundg (gk - 1)
      case rel => exact ⟨r, HT2.out, by have := HG.out; simp only [List.length_cons] at this; omega, HR2.out, HF2.out⟩
      case measure => have := HG.out; simp only [List.length_cons] at this; omega
    | false =>
      have HT2 := hide (show t :: r = B by
        rw [← HT.out]
        show _ = (if _ then _ else _)
        rw [if_neg (show ¬ (t.k == 2 && t.t == sLf) = true from by rw [show (t.k == 2 && t.t == sLf) = false from hc]; decide)])
      have Hsg := hide (fun W hW => by have := Hs.out W (t :: r) hW; rw [hc] at this; exact this)
      clear hc
      go_wp2_with fail
      refine (Hsg.out _ HRr.out).mono ?_
      rintro e w1 ⟨rfl, g1⟩
      have HR1 := hide (HRr.out.grown g1)
      have HF1 := hide (rb_trans HFr.out (rb_none g1))
      clear g1
      go_wp2_with fail
      refine bodyPost_end (results_none rfl _ _ _) rfl ⟨_, rfl, rfl, by rw [← HT2.out]; exact HR1.out, HF1.out⟩

end Go.Proofs.Ytgpfjcogaheopaa
