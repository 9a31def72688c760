/- The plain readers do the same behind nodes that stand there already. -/
import Derived.Test.YtgpfjcogaheopaaPB
set_option linter.all false
namespace Go.Proofs.Ytgpfjcogaheopaa
open Lx
set_option maxRecDepth 100000
/-- A kid's number, when b nodes stand ahead. -/
def kdS (b : Nat) (k : Int) : Int := if k < 0 then -1 else k + b
def Nd.sh (b : Nat) (n : Nd) : Nd := { n with kids := n.kids.map (kdS b) }
def shN (pre ns : List Nd) : List Nd := pre ++ ns.map (Nd.sh pre.length)
def PR.mv {α β : Type} (pre : List Nd) (g : α → β) : PR α → PR β
 | .ok x ts ns => .ok (g x) ts (shN pre ns)
 | .bad a e => .bad a e
theorem shN_len (pre ns : List Nd) : (shN pre ns).length = pre.length + ns.length := by simp [shN]
theorem kdS_nat (b n : Nat) : kdS b (n : Int) = ((b + n : Nat) : Int) := by unfold kdS; rw [if_neg (by omega)]; omega
theorem kdS_neg (b : Nat) : kdS b (-1) = -1 := by unfold kdS; rw [if_pos (by omega)]
theorem kdS_add (b : Nat) (x : Int) (h : 0 ≤ x) : kdS b x = x + b := by unfold kdS; rw [if_neg (by omega)]
theorem shN_snoc (pre ns : List Nd) (n m : Nd) (h : m = n.sh pre.length) : shN pre ns ++ [m] = shN pre (ns ++ [n]) := by subst h; simp [shN]
theorem kdS_lay (pre ns : List Nd) : ((shN pre ns).length : Int) = kdS pre.length ns.length := by rw [shN_len, kdS_nat]
def Kg (b : Nat) (k : List Int × Bool) : List Int × Bool := (k.1.map (kdS b), k.2)
section
variable {α β γ δ : Type} {pre : List Nd}
theorem mv_bind {p : PR α} {p' : PR β} {g : α → β} {f : α → List Tok → List Nd → PR γ} {f' : β → List Tok → List Nd → PR δ} {h : γ → δ} (hp : p' = p.mv pre g) (hf : ∀ x ts ns, p = .ok x ts ns → f' (g x) ts (shN pre ns) = (f x ts ns).mv pre h) : p'.bind f' = (p.bind f).mv pre h := by
 subst hp
 cases p with
 | ok x ts ns => exact hf x ts ns rfl
 | bad a e => rfl
theorem mv_ite {c : Bool} {p q : PR α} {p' q' : PR β} {h : α → β} (h1 : c = true → p' = p.mv pre h) (h2 : c = false → q' = q.mv pre h) : (if c = true then p' else q') = (if c = true then p else q).mv pre h := by
 cases c with
 | true => exact h1 rfl
 | false => exact h2 rfl
theorem mv_dite {c : Prop} [Decidable c] {p q : PR α} {p' q' : PR β} {h : α → β} (h1 : c → p' = p.mv pre h) (h2 : ¬ c → q' = q.mv pre h) : (if c then p' else q') = (if c then p else q).mv pre h := by
 by_cases hc : c
 ·rw [if_pos hc, if_pos hc]; exact h1 hc
 ·rw [if_neg hc, if_neg hc]; exact h2 hc
theorem mv_wrong (ts : List Tok) (g : α → β) : (wrongR ts : PR β) = (wrongR ts : PR α).mv pre g := by unfold wrongR; cases ts <;> rfl
theorem mv_lay {n m : Nd} (ts : List Tok) (ns : List Nd) (h : m = n.sh pre.length) : layR m ts (shN pre ns) = (layR n ts ns).mv pre (kdS pre.length) := by
 unfold layR
 rw [shN_snoc pre ns n m h, kdS_lay]
 rfl
theorem mv_need (s : List UInt8) (ts : List Tok) (ns : List Nd) : needR s ts (shN pre ns) = (needR s ts ns).mv pre id := by
 unfold needR
 exact mv_ite (fun _ => rfl) (fun _ => mv_wrong _ _)
def Eqv (r : Rdr) : Prop := ∀ pre ts ns, r ts (shN pre ns) = (r ts ns).mv pre (kdS pre.length)
def EqvD (r : Drd) : Prop := ∀ d, Eqv (r d)
/-! ### lists, items, pipes -/
theorem list_loop_v {item : Rdr} (hi : Eqv item) : ∀ (f : Nat) (kids : List Int) (back : Bool) (ts : List Tok) (ns : List Nd), listL item f (kids.map (kdS pre.length)) back ts (shN pre ns) = (listL item f kids back ts ns).mv pre (Kg pre.length) := by
 intro f
 induction f with
 | zero => intro _ _ _ _; rfl
 | succ f ih =>
  intro kids back ts ns
  rw [listL, listL]
  refine mv_bind (hi _ _ _) fun x t1 n1 _ => ?_
  have e1 : ∀ y : Int, kids.map (kdS pre.length) ++ [kdS pre.length y] = (kids ++ [y]).map (kdS pre.length) := fun y => by simp
  have e2 : shN pre n1 ++ [({ kind := 7, kids := [kdS pre.length x] } : Nd)] = shN pre (n1 ++ [{ kind := 7, kids := [x] }]) := shN_snoc _ _ _ _ rfl
  simp only []
  rw [e2, kdS_lay]
  cases isB t1 sAmp with
  | true =>
   simp only [if_true, Bool.true_or]
   rw [e1]
   exact mv_ite (fun _ => ih _ _ _ _) (fun _ => rfl)
  | false =>
   simp only [Bool.false_eq_true, if_false, Bool.false_or]
   rw [e1]
   exact mv_ite (fun _ => mv_ite (fun _ => ih _ _ _ _) (fun _ => rfl)) (fun _ => rfl)
theorem list_v {item : Rdr} (hi : Eqv item) : Eqv (listF item) := by
 intro pre ts ns
 unfold listF
 refine mv_bind (list_loop_v hi _ [] _ _ _) fun k t1 n1 _ => ?_
 obtain ⟨l, b⟩ := k
 unfold Kg
 match l with
 | [] => exact mv_lay _ _ rfl
 | [x] => exact mv_ite (fun _ => mv_lay _ _ rfl) (fun _ => rfl)
 | x :: y :: l => exact mv_lay _ _ rfl
theorem item_loop_v {pipe : Rdr} (hp : Eqv pipe) : ∀ (f : Nat) (x : Int) (ts : List Tok) (ns : List Nd), itemL pipe f (kdS pre.length x) ts (shN pre ns) = (itemL pipe f x ts ns).mv pre (kdS pre.length) := by
 intro f
 induction f with
 | zero => intro _ _ _; rfl
 | succ f ih =>
  intro x ts ns
  rw [itemL, itemL]
  refine mv_ite (fun _ => ?_) (fun _ => mv_ite (fun _ => ?_) (fun _ => rfl))
  all_goals
   refine mv_bind (hp _ _ _) fun y t1 n1 _ => ?_
   have e : ∀ kd : Int, shN pre n1 ++ [({ kind := kd, kids := [kdS pre.length x, kdS pre.length y] } : Nd)] = shN pre (n1 ++ [{ kind := kd, kids := [x, y] }]) := fun kd => shN_snoc _ _ _ _ rfl
   rw [kdS_lay, e]
   exact ih _ _ _
theorem item_v {pipe : Rdr} (hp : Eqv pipe) : Eqv (itemF pipe) := fun _pre _ts _ns => mv_bind (hp _ _ _) fun _x _t1 _n1 _ => item_loop_v hp _ _ _ _
theorem pipe_loop_v {cmd : Rdr} (hc : Eqv cmd) : ∀ (f : Nat) (kids : List Int) (ts : List Tok) (ns : List Nd), pipeL cmd f (kids.map (kdS pre.length)) ts (shN pre ns) = (pipeL cmd f kids ts ns).mv pre (List.map (kdS pre.length)) := by
 intro f
 induction f with
 | zero => intro _ _ _; rfl
 | succ f ih =>
  intro kids ts ns
  rw [pipeL, pipeL]
  refine mv_ite (fun _ => mv_bind (hc _ _ _) fun y t1 n1 _ => ?_) (fun _ => rfl)
  rw [show kids.map (kdS pre.length) ++ [kdS pre.length y] = (kids ++ [y]).map (kdS pre.length) by simp]
  exact ih _ _ _
theorem pipe_ne {cmd : Rdr} : ∀ (f : Nat) (kids : List Int) (ts : List Tok) (ns : List Nd) (k : List Int) (t' : List Tok) (n' : List Nd), kids ≠ [] → pipeL cmd f kids ts ns = .ok k t' n' → k ≠ [] := by
 intro f
 induction f with
 | zero => intro _ _ _ _ _ _ _ h; cases h
 | succ f ih =>
  intro kids ts ns k t' n' hk h
  rw [pipeL] at h
  split at h
  ·obtain ⟨y, t1, n1, _, h2⟩ := bind_eq h
   exact ih _ _ _ _ _ _ (by simp) h2
  ·injection h with h _ _
   exact h ▸ hk
theorem not_v (b : Bool) (x y : Int) (ts : List Tok) (ns : List Nd) (h : y = kdS pre.length x) : notR b y ts (shN pre ns) = (notR b x ts ns).mv pre (kdS pre.length) := by
 subst h
 unfold notR
 exact mv_ite (fun _ => mv_lay _ _ rfl) (fun _ => rfl)
theorem pipe_v {cmd : Rdr} (hc : Eqv cmd) : Eqv (pipeF cmd) := by
 intro pre ts ns
 unfold pipeF
 refine mv_bind (hc _ _ _) fun x t1 n1 _ => ?_
 refine mv_bind (pipe_loop_v hc _ [x] _ _) fun k t2 n2 hk => ?_
 have hne := pipe_ne _ _ _ _ _ _ _ (by simp) hk
 simp only [List.length_map]
 refine mv_dite (fun _ => ?_) (fun _ => ?_)
 ·have e : shN pre n2 ++ [({ kind := 3, kids := k.map (kdS pre.length) } : Nd)] = shN pre (n2 ++ [{ kind := 3, kids := k }]) := shN_snoc _ _ _ _ rfl
  rw [e]
  exact not_v _ _ _ _ _ (kdS_lay _ _)
 ·refine not_v _ _ _ _ _ ?_
  cases k with
  | nil => exact absurd rfl hne
  | cons a k => rfl
/-! ### redirections, simple commands -/
theorem redir_loop_v : ∀ (f : Nat) (acc : List Rd) (ts : List Tok) (ns : List Nd), redirL f acc ts (shN pre ns) = (redirL f acc ts ns).mv pre id := by
 intro f
 induction f with
 | zero => intro _ _ _; rfl
 | succ f ih =>
  intro acc ts ns
  cases ts with
  | nil => rfl
  | cons t r =>
   rw [redirL, redirL]
   exact mv_ite (fun _ => mv_ite (fun _ => ih _ _ _) (fun _ => mv_wrong _ _)) (fun _ => mv_ite (fun _ => mv_ite (fun _ => ih _ _ _) (fun _ => mv_wrong _ _)) (fun _ => rfl))
theorem redir_v (ts : List Tok) (ns : List Nd) : redirF ts (shN pre ns) = (redirF ts ns).mv pre id := redir_loop_v _ _ _ _
theorem sim_loop_v : ∀ (f : Nat) (n m : Nd) (ts : List Tok) (ns : List Nd), m = n.sh pre.length → simL f m ts (shN pre ns) = (simL f n ts ns).mv pre (Nd.sh pre.length) := by
 intro f
 induction f with
 | zero => intro _ _ _ _ _; rfl
 | succ f ih =>
  intro n m ts ns h
  subst h
  rw [simL, simL]
  refine mv_bind (redir_v _ _) fun l t1 n1 _ => ?_
  cases t1 with
  | nil => rfl
  | cons t r =>
   simp only [id]
   exact mv_dite (fun _ => rfl) (fun _ => mv_dite (fun _ => ih _ _ _ _ rfl) (fun _ => mv_ite (fun _ => ih _ _ _ _ rfl) (fun _ => mv_ite (fun _ => rfl) (fun _ => ih _ _ _ _ rfl))))
theorem sim_v : Eqv simF := by
 intro pre ts ns
 unfold simF
 refine mv_bind (sim_loop_v _ _ _ _ _ rfl) fun n t1 n1 _ => ?_
 exact mv_dite (fun _ => mv_wrong _ _) (fun _ => mv_lay _ _ rfl)
/-! ### compounds -/
def NnR (r : Rdr) : Prop := ∀ ts ns x ts' ns', r ts ns = .ok x ts' ns' → 0 ≤ x
theorem within_v {r : Drd} (h : EqvD r) : EqvD (withinF r) := by
 intro d pre ts ns
 unfold withinF
 exact mv_dite (fun _ => rfl) (fun _ => h _ _ _ _)
theorem setRd_v {ns : List Nd} {x : Int} (l : List Rd) (h : 0 ≤ x) : setRd (shN pre ns) (kdS pre.length x) l = shN pre (setRd ns x l) := by
 obtain ⟨i, rfl⟩ : ∃ i : Nat, x = i := ⟨x.toNat, by omega⟩
 rw [kdS_nat]
 unfold setRd shN
 rw [Int.toNat_natCast, Int.toNat_natCast]
 apply List.ext_getElem?
 intro j
 rw [List.getElem?_modify]
 rcases Nat.lt_or_ge j pre.length with hj | hj
 ·have hne : ¬ (pre.length + i = j) := by omega
  rw [List.getElem?_append_left hj, List.getElem?_append_left hj]
  simp [hne]
 ·obtain ⟨m, rfl⟩ : ∃ m, j = pre.length + m := ⟨j - pre.length, by omega⟩
  rw [List.getElem?_append_right (by omega), List.getElem?_append_right (by omega), Nat.add_sub_cancel_left, List.getElem?_map, List.getElem?_map, List.getElem?_modify]
  cases ns[m]? with
  | none => rfl
  | some n =>
   by_cases hm : i = m
   ·simp [hm, Nd.sh]
   ·simp [hm]
theorem cmp_v {core : Drd} (h : EqvD core) (hn : ∀ d, NnR (core d)) : EqvD (cmpF core) := by
 intro d pre ts ns
 unfold cmpF
 refine mv_bind (within_v h d pre ts ns) fun x t1 n1 hx => ?_
 have hx0 : 0 ≤ x := by
  unfold withinF at hx
  split at hx
  ·cases hx
  ·exact hn _ _ _ _ _ _ hx
 refine mv_bind (redir_v _ _) fun l t2 n2 _ => ?_
 show PR.ok _ _ _ = PR.ok _ _ _
 rw [id, setRd_v l hx0]
theorem fun_v {cmp : Drd} (h : EqvD cmp) : EqvD (funF cmp) := by
 intro d pre ts ns
 unfold funF
 refine mv_bind (mv_need _ _ _) fun _ t1 n1 _ => mv_bind (mv_need _ _ _) fun _ t2 n2 _ => ?_
 exact mv_ite (fun _ => mv_bind (h _ _ _ _) fun x t3 n3 _ => mv_lay _ _ rfl) (fun _ => mv_wrong _ _)
theorem cmd_v {cmp : Drd} (h : EqvD cmp) : EqvD (cmdF cmp) := by
 intro d pre ts ns
 unfold cmdF
 exact mv_ite (fun _ => h _ _ _ _) (fun _ => mv_ite (fun _ => within_v (fun_v h) _ _ _ _) (fun _ => sim_v _ _ _))
theorem lstF_v {cmp : Drd} (h : EqvD cmp) : EqvD (lstF cmp) := fun d => list_v (item_v (pipe_v (cmd_v h d)))
theorem ifs_v {lst : Rdr} (h : Eqv lst) : ∀ f, Eqv (ifsF lst f) := by
 intro f
 induction f with
 | zero => intro _ _ _; rfl
 | succ f ih =>
  intro pre ts ns
  rw [ifsF, ifsF]
  refine mv_bind (h _ _ _) fun a t1 n1 _ => mv_bind (mv_need _ _ _) fun _ t2 n2 _ => mv_bind (h _ _ _) fun b t3 n3 _ => ?_
  refine mv_ite (fun _ => ?_) (fun _ => mv_ite (fun _ => ?_) (fun _ => ?_))
  ·exact mv_bind (ih _ _ _) fun c t4 n4 _ => mv_lay _ _ rfl
  ·exact mv_bind (h _ _ _) fun c t4 n4 _ => mv_bind (mv_need _ _ _) fun _ t5 n5 _ => mv_lay _ _ rfl
  ·exact mv_bind (mv_need _ _ _) fun _ t5 n5 _ => mv_lay _ _ rfl
theorem fors_v (ts : List Tok) (ns : List Nd) : forsF ts (shN pre ns) = (forsF ts ns).mv pre id := by
 cases ts with
 | nil => rfl
 | cons t r =>
  unfold forsF
  simp only []
  refine mv_ite (fun _ => mv_ite (fun _ => mv_ite (fun _ => mv_bind (mv_need _ _ _) fun _ t2 n2 _ => rfl) (fun _ => mv_wrong _ _)) (fun _ => mv_bind (mv_need _ _ _) fun _ t2 n2 _ => rfl)) (fun _ => mv_wrong _ _)
theorem any_v (ts : List Tok) (ns : List Nd) : anyR ts (shN pre ns) = (anyR ts ns).mv pre id := by
 cases ts with
 | nil => rfl
 | cons t r => exact mv_dite (fun _ => rfl) (fun _ => mv_wrong _ _)
theorem pats_v : ∀ (f : Nat) (acc : List (List UInt8)) (ts : List Tok) (ns : List Nd), patsL f acc ts (shN pre ns) = (patsL f acc ts ns).mv pre id := by
 intro f
 induction f with
 | zero => intro _ _ _; rfl
 | succ f ih =>
  intro acc ts ns
  rw [patsL, patsL]
  exact mv_ite (fun _ => mv_bind (any_v _ _) fun s t1 n1 _ => ih _ _ _) (fun _ => rfl)
theorem case_loop_v {lst : Rdr} (h : Eqv lst) : ∀ (f : Nat) (n m : Nd) (ts : List Tok) (ns : List Nd), m = n.sh pre.length → caseL lst f m ts (shN pre ns) = (caseL lst f n ts ns).mv pre (Nd.sh pre.length) := by
 intro f
 induction f with
 | zero => intro _ _ _ _ _; rfl
 | succ f ih =>
  intro n m ts ns hm
  subst hm
  rw [caseL, caseL]
  refine mv_ite (fun _ => rfl) (fun _ => mv_bind (any_v _ _) fun s t1 n1 _ => mv_bind (pats_v _ _ _ _) fun p t2 n2 _ => mv_bind (mv_need _ _ _) fun _ t3 n3 _ => ?_)
  refine mv_bind (p := if beginsB (breaksF t3) = true then lst (breaksF t3) n3 else .ok (-1) (breaksF t3) n3) (g := kdS pre.length) (mv_ite (fun _ => h _ _ _) (fun _ => ?_)) fun b t4 n4 _ => ?_
  ·show PR.ok _ _ _ = PR.ok _ _ _
   rw [kdS_neg]
  ·simp only [id]
   have e : ({ n.sh pre.length with pats := (n.sh pre.length).pats ++ [p], kids := (n.sh pre.length).kids ++ [kdS pre.length b] } : Nd) = Nd.sh pre.length { n with pats := n.pats ++ [p], kids := n.kids ++ [b] } := by
    simp [Nd.sh]
   refine mv_ite (fun _ => ih _ _ _ _ e) (fun _ => ?_)
   show PR.ok _ _ _ = PR.ok _ _ _
   rw [e]
theorem caseF_v {lst : Rdr} (h : Eqv lst) (ts : List Tok) (ns : List Nd) : caseF lst ts (shN pre ns) = (caseF lst ts ns).mv pre (Nd.sh pre.length) := by
 unfold caseF
 refine mv_bind (any_v _ _) fun s t1 n1 _ => mv_bind (mv_need _ _ _) fun _ t2 n2 _ => mv_bind (case_loop_v h _ _ _ _ _ rfl) fun n t3 n3 _ => ?_
 exact mv_bind (mv_need _ _ _) fun _ t4 n4 _ => rfl
theorem coreS_v {lst : Rdr} (h : Eqv lst) (s : List UInt8) : Eqv (coreS lst s) := by
 intro pre ts ns
 unfold coreS
 refine mv_dite (fun _ => ?_) (fun _ => mv_dite (fun _ => ?_) (fun _ => mv_dite (fun _ => ifs_v h _ _ _ _) (fun _ => mv_dite (fun _ => ?_) (fun _ => mv_dite (fun _ => ?_) (fun _ => ?_)))))
 ·exact mv_bind (h _ _ _) fun x t1 n1 _ => mv_bind (mv_need _ _ _) fun _ t2 n2 _ => mv_lay _ _ rfl
 ·exact mv_bind (h _ _ _) fun x t1 n1 _ => mv_bind (mv_need _ _ _) fun _ t2 n2 _ => mv_lay _ _ rfl
 ·exact mv_bind (fors_v _ _) fun n t1 n1 _ => mv_bind (h _ _ _) fun x t2 n2 _ => mv_bind (mv_need _ _ _) fun _ t3 n3 _ => mv_lay _ _ rfl
 ·exact mv_bind (caseF_v h _ _) fun n t1 n1 _ => mv_lay _ _ rfl
 ·exact mv_bind (h _ _ _) fun x t1 n1 _ => mv_bind (mv_need _ _ _) fun _ t2 n2 _ => mv_bind (h _ _ _) fun y t3 n3 _ => mv_bind (mv_need _ _ _) fun _ t4 n4 _ => mv_lay _ _ rfl
theorem lay_nn {n : Nd} {ts : List Tok} {ns : List Nd} {x : Int} {ts' : List Tok} {ns' : List Nd} (h : layR n ts ns = .ok x ts' ns') : 0 ≤ x := by
 have := (lay_ok h).1
 omega
theorem ifs_nn {lst : Rdr} : ∀ f, NnR (ifsF lst f) := by
 intro f
 cases f with
 | zero => intro _ _ _ _ _ h; cases h
 | succ f =>
  intro ts ns x t' n' h
  rw [ifsF] at h
  obtain ⟨_, _, _, _, h⟩ := bind_eq h
  obtain ⟨_, _, _, _, h⟩ := bind_eq h
  obtain ⟨_, _, _, _, h⟩ := bind_eq h
  split at h
  ·obtain ⟨_, _, _, _, h⟩ := bind_eq h
   exact lay_nn h
  ·split at h
   ·obtain ⟨_, _, _, _, h⟩ := bind_eq h
    obtain ⟨_, _, _, _, h⟩ := bind_eq h
    exact lay_nn h
   ·obtain ⟨_, _, _, _, h⟩ := bind_eq h
    exact lay_nn h
theorem coreS_nn {lst : Rdr} (s : List UInt8) : NnR (coreS lst s) := by
 intro ts ns x t' n' h
 unfold coreS at h
 split at h
 ·obtain ⟨_, _, _, _, h⟩ := bind_eq h
  obtain ⟨_, _, _, _, h⟩ := bind_eq h
  exact lay_nn h
 ·split at h
  ·obtain ⟨_, _, _, _, h⟩ := bind_eq h
   obtain ⟨_, _, _, _, h⟩ := bind_eq h
   exact lay_nn h
  ·split at h
   ·exact ifs_nn _ _ _ _ _ _ h
   ·split at h
    ·obtain ⟨_, _, _, _, h⟩ := bind_eq h
     obtain ⟨_, _, _, _, h⟩ := bind_eq h
     obtain ⟨_, _, _, _, h⟩ := bind_eq h
     exact lay_nn h
    ·split at h
     ·obtain ⟨_, _, _, _, h⟩ := bind_eq h
      exact lay_nn h
     ·obtain ⟨_, _, _, _, h⟩ := bind_eq h
      obtain ⟨_, _, _, _, h⟩ := bind_eq h
      obtain ⟨_, _, _, _, h⟩ := bind_eq h
      obtain ⟨_, _, _, _, h⟩ := bind_eq h
      exact lay_nn h
theorem coreF_v {l : Drd} (h : EqvD l) : EqvD (coreF l) ∧ ∀ d, NnR (coreF l d) := by
 refine ⟨fun d pre ts ns => ?_, fun d ts ns x t' n' hx => ?_⟩
 ·cases ts with
  | nil => rfl
  | cons t r => exact mv_dite (fun _ => rfl) (fun _ => coreS_v (h d) _ _ _ _)
 ·cases ts with
  | nil => cases hx
  | cons t r =>
   unfold coreF at hx
   simp only [] at hx
   split at hx
   ·cases hx
   ·exact coreS_nn _ _ _ _ _ _ hx
theorem core_v : ∀ f, EqvD (core f) ∧ ∀ d, NnR (core f d) := by
 intro f
 induction f with
 | zero => exact ⟨fun _ _ _ _ => rfl, fun _ _ _ _ _ _ h => by cases h⟩
 | succ f ih => exact coreF_v (lstF_v (cmp_v ih.1 ih.2))
theorem cmpc_v (f : Nat) : EqvD (cmpF (core f)) := cmp_v (core_v f).1 (core_v f).2
end
/-- What a reader reads, put behind some nodes. -/
theorem eqv_at {r : Rdr} (h : Eqv r) (ts : List Tok) (ns : List Nd) : r ts ns = (r ts []).mv ns (kdS ns.length) := by
 have := h ns ts []
 rw [show shN ns [] = ns by simp [shN]] at this
 exact this
/-! ### parts put together -/
def joinStep (a : List Nd × List Int) (ms : List Nd) : List Nd × List Int := if ms = [] then (a.1, a.2 ++ [-1]) else (shN a.1 ms, a.2 ++ [((a.1.length + ms.length : Nat) : Int) - 1])
def joinP (ps : List (List Nd)) : List Nd × List Int := ps.foldl joinStep ([], [])
/-- Parts, one behind the other, and a node of them. -/
def joinR (ps : List (List Nd)) (n : Nd) : List Nd := (joinP ps).1 ++ [{ n with kids := n.kids ++ (joinP ps).2 }]
theorem joinP_snoc (ps : List (List Nd)) (ms : List Nd) : joinP (ps ++ [ms]) = joinStep (joinP ps) ms := by unfold joinP; rw [List.foldl_append]; rfl
theorem joinP_len : ∀ ps : List (List Nd), (joinP ps).2.length = ps.length := by
 intro ps
 have : ∀ (ps : List (List Nd)) (a : List Nd × List Int), (ps.foldl joinStep a).2.length = a.2.length + ps.length := by
  intro ps
  induction ps with
  | nil => intro a; rfl
  | cons p ps ih =>
   intro a
   rw [List.foldl_cons, ih, List.length_cons]
   unfold joinStep
   split <;> simp only [List.length_append, List.length_cons, List.length_nil] <;> omega
 rw [joinP, this]
 simp
end Go.Proofs.Ytgpfjcogaheopaa
