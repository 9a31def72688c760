/- The plain law of the table of processes: what is counted, and who is whose, is kept by each step. -/
import Derived.Test.YtljlbdbgocohlaaH
namespace Go.Proofs.Ytljlbdbgocohlaa

def child (st : PS) (par : Int) (p : Pr) (res : Bool) : Pr := ⟨st.last + 1, par, p.usr, p.ses, 0, false, res⟩
def addPr (st : PS) (c : Pr) : PS := { st with L := st.L ++ [c], last := st.last + 1 }
def more (st : PS) : PS := { st with spare := st.spare + 1 }
def forkRes (st : PS) (par : Int) (res : Bool) : PS × Int × Int :=
  match liveN st.L par with
  | some n =>
    if res then
      if par ≠ 1 then (st, 0, 2)
      else if 5 ≤ st.spare then (st, 0, 12)
      else (addPr (more st) (child st par (st.L.getD n pr0) true), st.last + 1, 0)
    else if (roomRes st (st.L.getD n pr0).usr).2 = 0 then (addPr (roomRes st (st.L.getD n pr0).usr).1 (child st par (st.L.getD n pr0) false), st.last + 1, 0)
    else (st, 0, (roomRes st (st.L.getD n pr0).usr).2)
  | none => (st, 0, 3)
def isKid (pid c : Int) (p : Pr) : Bool := decide (p.par = pid) && !(decide (1 ≤ c) && !decide (p.pid = c))
def del (L : List Pr) (k : Nat) : List Pr := L.take k ++ L.drop (k + 1)
def waitAt (pid c : Int) (L : List Pr) (k : Nat) : Option Nat := if h : k < L.length then if isKid pid c L[k] && L[k].dead then some k else waitAt pid c L (k + 1) else none
termination_by L.length - k
def waitRes (st : PS) (pid c : Int) : PS × Int × Int × Int :=
  match liveN st.L pid with
  | some _ =>
    match waitAt pid c st.L 0 with
    | some k => (leavesRes (withL st (del st.L k)) (st.L.getD k pr0), (st.L.getD k pr0).pid, (st.L.getD k pr0).sta, 0)
    | none => (st, 0, 0, if st.L.any (isKid pid c) then 0 else 16)
  | none => (st, 0, 0, 3)

/-! ### counting -/
def ind (p : Pr) (u : Int) : Int := if p.usr = u ∧ p.res = false then 1 else 0
def rind (p : Pr) : Int := if p.res = true then 1 else 0
def cnt : List Pr → Int → Int
  | [], _ => 0
  | p :: r, u => ind p u + cnt r u
def rcnt : List Pr → Int
  | [] => 0
  | p :: r => rind p + rcnt r
theorem cnt_append (A B : List Pr) (u : Int) : cnt (A ++ B) u = cnt A u + cnt B u := by
  induction A with
  | nil => simp [cnt]
  | cons p r ih => simp only [List.cons_append, cnt, ih]; omega
theorem rcnt_append (A B : List Pr) : rcnt (A ++ B) = rcnt A + rcnt B := by
  induction A with
  | nil => simp [rcnt]
  | cons p r ih => simp only [List.cons_append, rcnt, ih]; omega
theorem ind_pos (p : Pr) (u : Int) : 0 ≤ ind p u ∧ ind p u ≤ 1 := by unfold ind; split <;> omega
theorem rind_pos (p : Pr) : 0 ≤ rind p ∧ rind p ≤ 1 := by unfold rind; split <;> omega
theorem cnt_pos (L : List Pr) (u : Int) : 0 ≤ cnt L u ∧ cnt L u ≤ L.length := by
  induction L with
  | nil => simp [cnt]
  | cons p r ih => have := ind_pos p u; simp only [cnt, List.length_cons]; omega
theorem rcnt_pos (L : List Pr) : 0 ≤ rcnt L ∧ rcnt L ≤ L.length := by
  induction L with
  | nil => simp [rcnt]
  | cons p r ih => have := rind_pos p; simp only [rcnt, List.length_cons]; omega
theorem cnt_map (g : Pr → Pr) (hg : ∀ p, (g p).usr = p.usr ∧ (g p).res = p.res) (L : List Pr) (u : Int) : cnt (L.map g) u = cnt L u := by
  induction L with
  | nil => rfl
  | cons p r ih => simp only [List.map_cons, cnt, ih, ind, (hg p).1, (hg p).2]
theorem rcnt_map (g : Pr → Pr) (hg : ∀ p, (g p).usr = p.usr ∧ (g p).res = p.res) (L : List Pr) : rcnt (L.map g) = rcnt L := by
  induction L with
  | nil => rfl
  | cons p r ih => simp only [List.map_cons, rcnt, ih, rind, (hg p).2]

def sumU (L : List Pr) : List Int → Int
  | [] => 0
  | u :: r => cnt L u + sumU L r
theorem sumU_cons (p : Pr) (L : List Pr) (U : List Int) : sumU L U ≤ sumU (p :: L) U ∧ (p.res = false → p.usr ∈ U → sumU L U + 1 ≤ sumU (p :: L) U) := by
  induction U with
  | nil => exact ⟨Int.le_refl _, fun _ h => by cases h⟩
  | cons u r ih =>
    have hp := ind_pos p u
    simp only [sumU, cnt]
    refine ⟨by omega, fun h1 h2 => ?_⟩
    rcases List.mem_cons.1 h2 with rfl | h2
    · have : ind p p.usr = 1 := by simp [ind, h1]
      omega
    · have := ih.2 h1 h2
      omega
theorem len_sum (L : List Pr) (U : List Int) (hk : ∀ p ∈ L, p.res = false → p.usr ∈ U) : (L.length : Int) ≤ rcnt L + sumU L U := by
  induction L with
  | nil =>
    have : ∀ U, sumU [] U = 0 := by intro U; induction U with
      | nil => rfl
      | cons u r ih => simp [sumU, cnt, ih]
    simp [this, rcnt]
  | cons p r ih =>
    have h1 := ih (fun q hq => hk q (List.mem_cons_of_mem _ hq))
    have h2 := sumU_cons p r U
    have h3 := rind_pos p
    simp only [List.length_cons, rcnt]
    cases hr : p.res with
    | true => have : rind p = 1 := by simp [rind, hr]
              omega
    | false => have := h2.2 hr (hk p (by simp) hr)
               omega
theorem sum_le (L : List Pr) (U : List Int) (h : ∀ u, cnt L u ≤ 6) : sumU L U ≤ 6 * U.length := by
  induction U with
  | nil => simp [sumU]
  | cons u r ih => have := h u; simp only [sumU, List.length_cons]; omega

/-! ### who is there -/
abbrev Sg := Int × Int × Bool
def sig (p : Pr) : Sg := (p.pid, p.par, p.dead)
structure Sig (G : List Sg) (last : Int) : Prop where
  inc : G.Pairwise (fun a b => a.1 < b.1)
  le : ∀ p ∈ G, p.1 ≤ last
  one : ∃ r, G = (1, 0, false) :: r
  par : ∀ p ∈ G, p.1 = 1 ∨ p.2.1 = 1 ∨ ∃ q ∈ G, q.1 = p.2.1 ∧ q.2.2 = false
structure Inv (st : PS) : Prop where
  f : ∀ u, st.f u = cnt st.L u
  sp : st.spare = rcnt st.L
  kn : ∀ p ∈ st.L, p.res = false → p.usr ∈ st.U
  u8 : st.U.length ≤ 8
  f6 : ∀ u, cnt st.L u ≤ 6
  s5 : rcnt st.L ≤ 5
  us : ∀ p ∈ st.L, 0 ≤ p.usr ∧ p.usr ≤ 65535
  sg : Sig (st.L.map sig) st.last
  lo : 1 ≤ st.last

theorem Sig.ge {G : List Sg} {last : Int} (h : Sig G last) : ∀ p ∈ G, 1 ≤ p.1 := by
  obtain ⟨r, hr⟩ := h.one
  have hi := h.inc
  subst hr
  intro p hp
  rcases List.mem_cons.1 hp with rfl | hp
  · simp
  · have := (List.pairwise_cons.1 hi).1 p hp
    simp only at this
    omega
theorem Inv.len {st : PS} (h : Inv st) : (st.L.length : Int) ≤ 53 := by
  have h1 := len_sum st.L st.U h.kn
  have h2 := sum_le st.L st.U h.f6
  have h3 := h.s5
  have h4 := h.u8
  omega
theorem Inv.pos {st : PS} (h : Inv st) : 0 < st.L.length := by
  obtain ⟨r, hr⟩ := h.sg.one
  have := congrArg List.length hr
  simp at this
  omega
theorem Inv.lite {st : PS} (h : Inv st) : Lite st := by
  have hl := h.len
  refine ⟨fun p hp => ?_, by have := h.u8; omega, fun u => ?_, ?_⟩
  · have := h.us p hp
    exact wfi_small (by omega) (by omega)
  · rw [h.f u]
    have h1 := cnt_pos st.L u
    have h2 := h.f6 u
    omega
  · rw [h.sp]
    have h1 := rcnt_pos st.L
    have h2 := h.s5
    omega

section
variable {L : List Pr} {n : Nat} {s x : Pr}
theorem split_at (h : L[n]? = some s) : L = L.take n ++ s :: L.drop (n + 1) := by
  obtain ⟨hn, hs⟩ := List.getElem?_eq_some_iff.1 h
  rw [← hs, ← List.drop_eq_getElem_cons hn, List.take_append_drop]
theorem set_at (h : L[n]? = some s) : L.set n x = L.take n ++ x :: L.drop (n + 1) := by
  obtain ⟨hn, hs⟩ := List.getElem?_eq_some_iff.1 h
  rw [List.set_eq_take_append_cons_drop, if_pos hn]
theorem cnt_at (h : L[n]? = some s) (u : Int) : cnt L u = cnt (del L n) u + ind s u := by
  conv => lhs; rw [split_at h]
  simp only [del, cnt_append, cnt]
  omega
theorem rcnt_at (h : L[n]? = some s) : rcnt L = rcnt (del L n) + rind s := by
  conv => lhs; rw [split_at h]
  simp only [del, rcnt_append, rcnt]
  omega
theorem cnt_set (h : L[n]? = some s) (u : Int) : cnt (L.set n x) u = cnt (del L n) u + ind x u := by
  rw [set_at h]
  simp only [del, cnt_append, cnt]
  omega
theorem rcnt_set (h : L[n]? = some s) : rcnt (L.set n x) = rcnt (del L n) + rind x := by
  rw [set_at h]
  simp only [del, rcnt_append, rcnt]
  omega
theorem sig_set (h : L[n]? = some s) (hx : sig x = sig s) : (L.set n x).map sig = L.map sig := by
  rw [set_at h]
  conv => rhs; rw [split_at h]
  simp [hx]
theorem mem_set' {p : Pr} (hp : p ∈ L.set n x) : p = x ∨ p ∈ L := by
  rcases List.mem_or_eq_of_mem_set hp with h | h
  · exact .inr h
  · exact .inl h
theorem getD_of (h : L[n]? = some s) : L.getD n pr0 = s := by rw [List.getD_eq_getElem?_getD, h]; rfl
end

theorem learn_mem {U : List Int} {k u : Int} (h : u ∈ U) : u ∈ learn U k := by unfold learn; split <;> simp [h]
theorem learn_self (U : List Int) (k : Int) : k ∈ learn U k := by
  unfold learn
  split
  · rename_i h; simpa using h
  · simp
theorem learn_known {U : List Int} {k : Int} (h : k ∈ U) : learn U k = U := by unfold learn; rw [if_pos (by simpa using h)]

/-- What room gives, if it gives it. -/
theorem room_ok {st : PS} {u : Int} (h : (roomRes st u).2 = 0) : (roomRes st u).1 = { st with U := learn st.U u, f := upd st.f u (st.f u + 1) } ∧ st.f u ≤ 5 ∧ (learn st.U u).length ≤ max 8 st.U.length := by
  unfold roomRes at *
  by_cases a : st.U.contains u = false ∧ 8 ≤ st.U.length
  · rw [if_pos a] at h
    simp at h
  · rw [if_neg a] at *
    by_cases b : 6 ≤ st.f u
    · rw [if_pos b] at h
      simp at h
    · rw [if_neg b] at *
      refine ⟨rfl, by omega, ?_⟩
      unfold learn
      split
      · omega
      · rename_i hc
        have : ¬ 8 ≤ st.U.length := fun e => a ⟨by simpa using hc, e⟩
        simp
        omega

theorem leads_inv {st : PS} (h : Inv st) (pid : Int) : Inv (leadsRes st pid).1 := by
  unfold leadsRes
  split
  · rename_i n hl
    obtain ⟨hi, hn, s, hs, hp, hd⟩ := liveN_some hl
    rw [getD_of hs]
    have e1 : ∀ u, cnt (st.L.set n (putSes s pid)) u = cnt st.L u := fun u => by rw [cnt_set hs, cnt_at hs]; rfl
    have e2 : rcnt (st.L.set n (putSes s pid)) = rcnt st.L := by rw [rcnt_set hs, rcnt_at hs]; rfl
    have e3 : (st.L.set n (putSes s pid)).map sig = st.L.map sig := sig_set hs rfl
    have hm : s ∈ st.L := List.mem_of_getElem? hs
    refine ⟨fun u => by simp only [setL]; rw [e1]; exact h.f u, by simp only [setL]; rw [e2]; exact h.sp, fun p hp => ?_, h.u8, fun u => by simp only [setL]; rw [e1]; exact h.f6 u, by simp only [setL]; rw [e2]; exact h.s5, fun p hp => ?_, by simp only [setL]; rw [e3]; exact h.sg, h.lo⟩
    · rcases mem_set' hp with rfl | hp
      · exact h.kn s hm
      · exact h.kn p hp
    · rcases mem_set' hp with rfl | hp
      · exact h.us s hm
      · exact h.us p hp
  · exact h

theorem becomes_inv {st : PS} (h : Inv st) (pid uid : Int) : Inv (becomesRes st pid uid).1 := by
  unfold becomesRes
  split
  · rename_i n hl
    obtain ⟨hi, hn, s, hs, hp, hd⟩ := liveN_some hl
    rw [getD_of hs]
    have hm : s ∈ st.L := List.mem_of_getElem? hs
    split
    · exact h
    · rename_i hr
      split
      · exact h
      · rename_i hsame
        split
        · rename_i hok
          obtain ⟨h1, h2, h3⟩ := room_ok hok
          rw [h1]
          have hL : (leavesRes { st with U := learn st.U uid, f := upd st.f uid (st.f uid + 1) } s).L = st.L := leaves_L
          have hU : (leavesRes { st with U := learn st.U uid, f := upd st.f uid (st.f uid + 1) } s).U = learn st.U uid := by
            unfold leavesRes
            split
            · rfl
            · rename_i hres
              exact learn_known (learn_mem (h.kn s hm (by simpa using hres)))
          have hla : (leavesRes { st with U := learn st.U uid, f := upd st.f uid (st.f uid + 1) } s).last = st.last := by unfold leavesRes; split <;> rfl
          have hf : ∀ u, (leavesRes { st with U := learn st.U uid, f := upd st.f uid (st.f uid + 1) } s).f u = cnt (st.L.set n (noRes (putUsr s uid))) u := by
            intro u
            rw [cnt_set hs]
            have e := h.f u
            rw [cnt_at hs] at e
            unfold leavesRes
            by_cases hres : s.res = true
            · rw [if_pos hres]
              simp only [upd]
              have i1 : ind s u = 0 := by simp [ind, hres]
              by_cases hu : u = uid
              · subst hu
                rw [if_pos rfl]
                have i2 : ind (noRes (putUsr s u)) u = 1 := by simp [ind, noRes, putUsr]
                omega
              · rw [if_neg hu]
                have i2 : ind (noRes (putUsr s uid)) u = 0 := by simp [ind, noRes, putUsr]; omega
                omega
            · rw [if_neg hres]
              have hres' : s.res = false := by simpa using hres
              have hne : s.usr ≠ uid := fun e => hsame ⟨e, hres'⟩
              simp only [upd]
              by_cases hu : u = s.usr
              · subst hu
                rw [if_pos rfl, if_neg hne]
                have i1 : ind s s.usr = 1 := by simp [ind, hres']
                have i2 : ind (noRes (putUsr s uid)) s.usr = 0 := by simp [ind, noRes, putUsr]; omega
                omega
              · rw [if_neg hu]
                have i1 : ind s u = 0 := by simp [ind]; omega
                by_cases hu2 : u = uid
                · subst hu2
                  rw [if_pos rfl]
                  have i2 : ind (noRes (putUsr s u)) u = 1 := by simp [ind, noRes, putUsr]
                  omega
                · rw [if_neg hu2]
                  have i2 : ind (noRes (putUsr s uid)) u = 0 := by simp [ind, noRes, putUsr]; omega
                  omega
          have hsp : (leavesRes { st with U := learn st.U uid, f := upd st.f uid (st.f uid + 1) } s).spare = rcnt (st.L.set n (noRes (putUsr s uid))) := by
            rw [rcnt_set hs]
            have e := h.sp
            rw [rcnt_at hs] at e
            have i2 : rind (noRes (putUsr s uid)) = 0 := rfl
            unfold leavesRes
            by_cases hres : s.res = true
            · rw [if_pos hres]
              have i1 : rind s = 1 := by simp [rind, hres]
              simp only
              omega
            · rw [if_neg hres]
              have i1 : rind s = 0 := by simp [rind, hres]
              simp only
              omega
          have hset : setL (leavesRes { st with U := learn st.U uid, f := upd st.f uid (st.f uid + 1) } s) n (noRes (putUsr s uid)) = ⟨st.L.set n (noRes (putUsr s uid)), st.last, learn st.U uid, (leavesRes { st with U := learn st.U uid, f := upd st.f uid (st.f uid + 1) } s).f, (leavesRes { st with U := learn st.U uid, f := upd st.f uid (st.f uid + 1) } s).spare⟩ := by
            unfold setL
            rw [hL, hU, hla]
          rw [hset]
          have hcle : ∀ u, cnt (st.L.set n (noRes (putUsr s uid))) u ≤ 6 := by
            intro u
            have e := h.f6 u
            rw [cnt_at hs] at e
            rw [cnt_set hs]
            have i0 := ind_pos s u
            by_cases hu : u = uid
            · subst hu
              have h2' := h2
              rw [h.f u, cnt_at hs] at h2'
              have i2 := ind_pos (noRes (putUsr s u)) u
              omega
            · have i2 : ind (noRes (putUsr s uid)) u = 0 := by simp [ind, noRes, putUsr]; omega
              omega
          have hrle : rcnt (st.L.set n (noRes (putUsr s uid))) ≤ 5 := by
            have e := h.s5
            rw [rcnt_at hs] at e
            rw [rcnt_set hs]
            have i0 := rind_pos s
            have i2 : rind (noRes (putUsr s uid)) = 0 := rfl
            omega
          refine ⟨hf, hsp, fun p hp => ?_, ?_, hcle, hrle, fun p hp => ?_, ?_, h.lo⟩
          · rcases mem_set' hp with rfl | hp
            · exact fun _ => learn_self _ _
            · exact fun hr => learn_mem (h.kn p hp hr)
          · have := h.u8
            simp only
            omega
          · rcases mem_set' hp with rfl | hp
            · simp only [noRes, putUsr]; omega
            · exact h.us p hp
          · simp only
            rw [sig_set hs (show sig (noRes (putUsr s uid)) = sig s from rfl)]
            exact h.sg
        · exact h
  · exact h

theorem sig_add {G : List Sg} {last pid : Int} (h : Sig G last) (hq : ∃ q ∈ G, q.1 = pid ∧ q.2.2 = false) : Sig (G ++ [(last + 1, pid, false)]) (last + 1) := by
  obtain ⟨r, hr⟩ := h.one
  refine ⟨?_, ?_, ⟨r ++ [(last + 1, pid, false)], by rw [hr]; rfl⟩, ?_⟩
  · rw [List.pairwise_append]
    refine ⟨h.inc, List.pairwise_singleton _ _, fun a ha b hb => ?_⟩
    obtain rfl := List.mem_singleton.1 hb
    have := h.le a ha
    simp only
    omega
  · intro p hp
    rcases List.mem_append.1 hp with hp | hp
    · have := h.le p hp; omega
    · obtain rfl := List.mem_singleton.1 hp
      simp
  · intro p hp
    rcases List.mem_append.1 hp with hp | hp
    · rcases h.par p hp with h1 | h1 | ⟨q, h1, h2⟩
      · exact .inl h1
      · exact .inr (.inl h1)
      · exact .inr (.inr ⟨q, List.mem_append_left _ h1, h2⟩)
    · obtain rfl := List.mem_singleton.1 hp
      obtain ⟨q, h1, h2⟩ := hq
      exact .inr (.inr ⟨q, List.mem_append_left _ h1, h2⟩)

theorem fork_inv {st : PS} (h : Inv st) (pid : Int) (res : Bool) : Inv (forkRes st pid res).1 ∧ ((forkRes st pid res).1.last = st.last ∨ (forkRes st pid res).1.last = st.last + 1) := by
  unfold forkRes
  split
  · rename_i n hl
    obtain ⟨hi, hn, s, hs, hp, hd⟩ := liveN_some hl
    rw [getD_of hs]
    have hm : s ∈ st.L := List.mem_of_getElem? hs
    have hsg : Sig ((st.L ++ [child st pid s res]).map sig) (st.last + 1) := by
      rw [List.map_append]
      exact sig_add h.sg ⟨sig s, List.mem_map.2 ⟨s, hm, rfl⟩, hp, hd⟩
    cases res with
    | true =>
      simp only [if_true]
      split
      · exact ⟨h, .inl rfl⟩
      · split
        · exact ⟨h, .inl rfl⟩
        · rename_i hlt
          refine ⟨⟨fun u => ?_, ?_, fun p hp => ?_, h.u8, fun u => ?_, ?_, fun p hp => ?_, hsg, by have := h.lo; simp only [addPr, more]; omega⟩, .inr rfl⟩
          · simp only [addPr, more, cnt_append, cnt, ind, child]
            rw [h.f u]
            simp
          · simp only [addPr, more, rcnt_append, rcnt, rind, child]
            rw [h.sp]
            simp
          · rcases List.mem_append.1 hp with hp | hp
            · exact h.kn p hp
            · obtain rfl := List.mem_singleton.1 hp
              exact fun e => by simp [child] at e
          · simp only [addPr, cnt_append, cnt, ind, child]
            have := h.f6 u
            simp [more]
            omega
          · simp only [addPr, more, rcnt_append, rcnt, rind, child]
            have := h.sp
            simp
            omega
          · rcases List.mem_append.1 hp with hp | hp
            · exact h.us p hp
            · obtain rfl := List.mem_singleton.1 hp
              exact h.us s hm
    | false =>
      simp only [Bool.false_eq_true, if_false]
      split
      · rename_i hok
        obtain ⟨h1, h2, h3⟩ := room_ok hok
        rw [h1]
        have hi : ∀ u, ind (child st pid s false) u = if u = s.usr then 1 else 0 := fun u => by
          unfold ind child
          by_cases e : u = s.usr
          · rw [if_pos e, if_pos ⟨e.symm, rfl⟩]
          · rw [if_neg e, if_neg (fun x => e x.1.symm)]
        refine ⟨⟨fun u => ?_, ?_, fun p hp => ?_, ?_, fun u => ?_, ?_, fun p hp => ?_, hsg, by have := h.lo; simp only [addPr]; omega⟩, .inr rfl⟩
        · simp only [addPr, cnt_append, cnt, upd]
          have := hi u
          have e := h.f u
          rw [this]
          by_cases hu : u = s.usr
          · subst hu
            simp only [if_true]
            omega
          · simp only [if_neg hu]
            omega
        · simp only [addPr, rcnt_append, rcnt, rind, child]
          rw [h.sp]
          simp
        · rcases List.mem_append.1 hp with hp | hp
          · exact fun hr => learn_mem (h.kn p hp hr)
          · obtain rfl := List.mem_singleton.1 hp
            exact fun _ => learn_self _ _
        · have := h.u8
          simp only [addPr]
          omega
        · simp only [addPr, cnt_append, cnt]
          have := hi u
          have e := h.f6 u
          rw [this]
          by_cases hu : u = s.usr
          · subst hu
            rw [h.f s.usr] at h2
            simp only [if_true]
            omega
          · simp only [if_neg hu]
            omega
        · simp only [addPr, rcnt_append, rcnt, rind, child]
          have := h.s5
          simp
          omega
        · rcases List.mem_append.1 hp with hp | hp
          · exact h.us p hp
          · obtain rfl := List.mem_singleton.1 hp
            exact h.us s hm
      · exact ⟨h, .inl rfl⟩
  · exact ⟨h, .inl rfl⟩

theorem orphan_same (pid : Int) (p : Pr) : (orphan pid p).usr = p.usr ∧ (orphan pid p).res = p.res := by unfold orphan; split <;> exact ⟨rfl, rfl⟩
theorem sig_orphan (pid : Int) (p : Pr) : sig (orphan pid p) = if p.par = pid then (p.pid, 1, p.dead) else sig p := by unfold orphan; split <;> rfl

theorem sig_exit {L : List Pr} {last pid x : Int} {n : Nat} {s : Pr} (h : Sig (L.map sig) last) (hs : L[n]? = some s) (hp : s.pid = pid) (h1 : pid ≠ 1) : Sig (((L.set n (die s x)).map (orphan pid)).map sig) last := by
  have hm : s ∈ L := List.mem_of_getElem? hs
  have hge : 1 ≤ pid := hp ▸ h.ge _ (List.mem_map.2 ⟨s, hm, rfl⟩)
  have hpids : (((L.set n (die s x)).map (orphan pid)).map sig).map (·.1) = (L.map sig).map (·.1) := by
    have e1 : ∀ M : List Pr, ((M.map (orphan pid)).map sig).map (·.1) = M.map Pr.pid := fun M => by
      rw [List.map_map, List.map_map]
      refine List.map_congr_left fun p _ => ?_
      simp only [Function.comp, sig_orphan]
      split <;> rfl
    have e2 : ∀ M : List Pr, (M.map sig).map (·.1) = M.map Pr.pid := fun M => by rw [List.map_map]; rfl
    rw [e1, e2, set_at hs]
    conv => rhs; rw [split_at hs]
    simp [die]
  have hmem : ∀ g ∈ ((L.set n (die s x)).map (orphan pid)).map sig, ∃ p ∈ L, g = sig (orphan pid p) ∨ p = s ∧ g = sig (orphan pid (die s x)) := by
    intro g hg
    obtain ⟨q, hq, rfl⟩ := List.mem_map.1 hg
    obtain ⟨p, hp, rfl⟩ := List.mem_map.1 hq
    rcases mem_set' hp with rfl | hp
    · exact ⟨s, hm, .inr ⟨rfl, rfl⟩⟩
    · exact ⟨p, hp, .inl rfl⟩
  have hinc := h.inc
  rw [← List.pairwise_map (f := fun g : Sg => g.1) (R := fun a b => a < b)] at hinc
  refine ⟨?_, ?_, ?_, ?_⟩
  · rw [← List.pairwise_map (f := fun g : Sg => g.1) (R := fun a b => a < b), hpids]
    exact hinc
  · intro g hg
    have : g.1 ∈ (L.map sig).map (·.1) := by rw [← hpids]; exact List.mem_map.2 ⟨g, hg, rfl⟩
    obtain ⟨g', hg', e⟩ := List.mem_map.1 this
    have := h.le g' hg'
    omega
  · obtain ⟨r, hr⟩ := h.one
    cases L with
    | nil => simp at hr
    | cons p0 L =>
      cases n with
      | zero =>
        simp only [List.getElem?_cons_zero, Option.some.injEq] at hs
        subst hs
        simp [sig] at hr
        exact absurd (hp.symm.trans hr.1.1) h1
      | succ n =>
        simp only [List.map_cons, List.cons.injEq] at hr
        refine ⟨((L.set n (die s x)).map (orphan pid)).map sig, ?_⟩
        rw [List.set_cons_succ, List.map_cons, List.map_cons, sig_orphan]
        have : p0.par = 0 := congrArg (fun g : Sg => g.2.1) hr.1
        rw [if_neg (by omega), hr.1]
  · intro g hg
    obtain ⟨p, hpm, hg'⟩ := hmem g hg
    by_cases hpp : p.par = pid
    · rcases hg' with rfl | ⟨rfl, rfl⟩
      · rw [sig_orphan, if_pos hpp]; exact .inr (.inl rfl)
      · rw [sig_orphan, if_pos (show (die p x).par = pid from hpp)]; exact .inr (.inl rfl)
    · have e1 : g.1 = p.pid ∧ g.2.1 = p.par := by
        rcases hg' with rfl | ⟨rfl, rfl⟩
        · rw [sig_orphan, if_neg hpp]; exact ⟨rfl, rfl⟩
        · rw [sig_orphan, if_neg (show ¬ (die p x).par = pid from hpp)]; exact ⟨rfl, rfl⟩
      rw [e1.1, e1.2]
      rcases h.par (sig p) (List.mem_map.2 ⟨p, hpm, rfl⟩) with h2 | h2 | ⟨q, h2, h3⟩
      · exact .inl h2
      · exact .inr (.inl h2)
      · obtain ⟨q, hq, rfl⟩ := List.mem_map.1 h2
        refine .inr (.inr ⟨sig (orphan pid q), ?_, ?_⟩)
        · have hqs : q ≠ s := fun e => hpp (by rw [← hp, ← e]; exact h3.1.symm)
          have : q ∈ L.set n (die s x) := by
            rw [set_at hs]
            rw [split_at hs] at hq
            rcases List.mem_append.1 hq with hq | hq
            · exact List.mem_append_left _ hq
            · rcases List.mem_cons.1 hq with hq | hq
              · exact absurd hq hqs
              · exact List.mem_append_right _ (List.mem_cons_of_mem _ hq)
          exact List.mem_map.2 ⟨_, List.mem_map.2 ⟨q, this, rfl⟩, rfl⟩
        · rw [sig_orphan]
          split
          · exact ⟨h3.1, h3.2⟩
          · exact h3

theorem exit_inv {st : PS} (h : Inv st) (pid x : Int) : Inv (exitRes st pid x).1 := by
  unfold exitRes
  split
  · rename_i n hl
    obtain ⟨hi, hn, s, hs, hp, hd⟩ := liveN_some hl
    rw [getD_of hs]
    have hm : s ∈ st.L := List.mem_of_getElem? hs
    split
    · exact h
    · rename_i h1
      have e1 : ∀ u, cnt ((st.L.set n (die s x)).map (orphan pid)) u = cnt st.L u := fun u => by rw [cnt_map _ (orphan_same pid), cnt_set hs, cnt_at hs]; rfl
      have e2 : rcnt ((st.L.set n (die s x)).map (orphan pid)) = rcnt st.L := by rw [rcnt_map _ (orphan_same pid), rcnt_set hs, rcnt_at hs]; rfl
      have hmm : ∀ p ∈ (st.L.set n (die s x)).map (orphan pid), ∃ q ∈ st.L, q.usr = p.usr ∧ q.res = p.res := by
        intro p hp
        obtain ⟨q, hq, rfl⟩ := List.mem_map.1 hp
        have := orphan_same pid q
        rcases mem_set' hq with rfl | hq
        · exact ⟨s, hm, this.1.symm, this.2.symm⟩
        · exact ⟨q, hq, this.1.symm, this.2.symm⟩
      refine ⟨fun u => by rw [e1]; exact h.f u, by rw [e2]; exact h.sp, fun p hp => ?_, h.u8, fun u => by rw [e1]; exact h.f6 u, by rw [e2]; exact h.s5, fun p hp => ?_, sig_exit h.sg hs hp h1, h.lo⟩
      · obtain ⟨q, hq, e3, e4⟩ := hmm p hp
        rw [← e3, ← e4]
        exact h.kn q hq
      · obtain ⟨q, hq, e3, e4⟩ := hmm p hp
        rw [← e3]
        exact h.us q hq
  · exact h

theorem waitAt_some {pid c : Int} {L : List Pr} {n : Nat} : ∀ (m k : Nat), L.length - k = m → waitAt pid c L k = some n → k ≤ n ∧ ∃ s, L[n]? = some s ∧ isKid pid c s = true ∧ s.dead = true := by
  intro m
  induction m with
  | zero => intro k hm h; rw [waitAt, dif_neg (by omega)] at h; cases h
  | succ m ih =>
    intro k hm h
    rw [waitAt, dif_pos (by omega)] at h
    split at h
    · rename_i hx
      injection h with h
      subst h
      simp only [Bool.and_eq_true] at hx
      exact ⟨Nat.le_refl _, _, List.getElem?_eq_getElem (by omega), hx⟩
    · obtain ⟨h1, h2⟩ := ih (k + 1) (by omega) h
      exact ⟨by omega, h2⟩

theorem sig_del {L : List Pr} {last : Int} {n : Nat} {s : Pr} (h : Sig (L.map sig) last) (hs : L[n]? = some s) (h1 : s.pid ≠ 1) (hd : s.dead = true) : Sig ((del L n).map sig) last := by
  have hsub : ((del L n).map sig).Sublist (L.map sig) := by
    refine List.Sublist.map _ ?_
    conv => rhs; rw [split_at hs]
    unfold del
    exact List.Sublist.append_left (List.sublist_cons_self _ _) _
  refine ⟨h.inc.sublist hsub, fun p hp => h.le p (hsub.subset hp), ?_, fun p hp => ?_⟩
  · obtain ⟨r, hr⟩ := h.one
    cases L with
    | nil => simp at hr
    | cons p0 L =>
      cases n with
      | zero =>
        simp only [List.getElem?_cons_zero, Option.some.injEq] at hs
        subst hs
        simp [sig] at hr
        exact absurd hr.1.1 h1
      | succ n =>
        simp only [List.map_cons, List.cons.injEq] at hr
        exact ⟨(del L n).map sig, by unfold del; rw [List.take_succ_cons, List.drop_succ_cons, List.cons_append, List.map_cons, hr.1]⟩
  · rcases h.par p (hsub.subset hp) with h2 | h2 | ⟨q, h2, h3, h4⟩
    · exact .inl h2
    · exact .inr (.inl h2)
    · refine .inr (.inr ⟨q, ?_, h3, h4⟩)
      obtain ⟨q, hq, rfl⟩ := List.mem_map.1 h2
      have hqs : q ≠ s := fun e => by rw [e] at h4; simp only [sig] at h4; rw [hd] at h4; cases h4
      rw [split_at hs] at hq
      refine List.mem_map.2 ⟨q, ?_, rfl⟩
      rcases List.mem_append.1 hq with hq | hq
      · exact List.mem_append_left _ hq
      · rcases List.mem_cons.1 hq with hq | hq
        · exact absurd hq hqs
        · exact List.mem_append_right _ hq

theorem wait_inv {st : PS} (h : Inv st) (pid c : Int) : Inv (waitRes st pid c).1 ∧ (waitRes st pid c).1.last = st.last := by
  unfold waitRes
  split
  · rename_i n hl
    split
    · rename_i k hk
      obtain ⟨_, s, hs, hkid, hd⟩ := waitAt_some _ 0 rfl hk
      rw [getD_of hs]
      have hm : s ∈ st.L := List.mem_of_getElem? hs
      obtain ⟨_, _, s0, hs0, hp0, hd0⟩ := liveN_some hl
      have hpar : s.par = pid := by
        unfold isKid at hkid
        simp only [Bool.and_eq_true, decide_eq_true_eq] at hkid
        exact hkid.1
      have h1 : s.pid ≠ 1 := by
        intro e
        obtain ⟨r, hr⟩ := h.sg.one
        have hg := h.sg.ge (sig s0) (List.mem_map.2 ⟨s0, List.mem_of_getElem? hs0, rfl⟩)
        have hms : sig s ∈ st.L.map sig := List.mem_map.2 ⟨s, hm, rfl⟩
        have hinc := h.sg.inc
        rw [hr] at hms hinc
        rcases List.mem_cons.1 hms with e2 | hms
        · have : s.par = 0 := congrArg (fun g : Sg => g.2.1) e2
          simp only [sig] at hg
          omega
        · have := (List.pairwise_cons.1 hinc).1 _ hms
          simp only [sig] at this
          omega
      have hsg := sig_del h.sg hs h1 hd
      have hsub : ∀ p ∈ del st.L k, p ∈ st.L := by
        intro p hp
        rcases List.mem_append.1 hp with hp | hp
        · exact List.mem_of_mem_take hp
        · exact List.mem_of_mem_drop hp
      have hc := fun u => cnt_at hs u
      have hr := rcnt_at hs
      have hf6 : ∀ u, cnt (del st.L k) u ≤ 6 := fun u => by have := h.f6 u; have := hc u; have := ind_pos s u; omega
      have hs5 : rcnt (del st.L k) ≤ 5 := by have := h.s5; have := rind_pos s; omega
      unfold leavesRes
      by_cases hres : s.res = true
      · rw [if_pos hres]
        have i1 : rind s = 1 := by simp [rind, hres]
        refine ⟨⟨fun u => ?_, ?_, fun p hp => h.kn p (hsub p hp), h.u8, hf6, hs5, fun p hp => h.us p (hsub p hp), hsg, h.lo⟩, rfl⟩
        · have i2 : ind s u = 0 := by simp [ind, hres]
          have := hc u
          have := h.f u
          simp only [withL]
          omega
        · have := h.sp
          simp only [withL]
          omega
      · rw [if_neg hres]
        have hres' : s.res = false := by simpa using hres
        have i1 : rind s = 0 := by simp [rind, hres]
        refine ⟨⟨fun u => ?_, ?_, fun p hp hr => learn_mem (h.kn p (hsub p hp) hr), ?_, hf6, hs5, fun p hp => h.us p (hsub p hp), hsg, h.lo⟩, rfl⟩
        · have := hc u
          have := h.f u
          simp only [withL, upd]
          by_cases hu : u = s.usr
          · subst hu
            rw [if_pos rfl]
            have i2 : ind s s.usr = 1 := by simp [ind, hres']
            omega
          · rw [if_neg hu]
            have i2 : ind s u = 0 := by simp [ind]; omega
            omega
        · have := h.sp
          simp only [withL]
          omega
        · simp only [withL]
          rw [learn_known (h.kn s hm hres')]
          exact h.u8
    · exact ⟨h, rfl⟩
  · exact ⟨h, rfl⟩

end Go.Proofs.Ytljlbdbgocohlaa
