/- From a walk to the row of a law: the call returns true and leaves all that was there as it was, whatever the arguments; so the given row holds. One lemma is a guide's page's, meant for copying (post_of_below). -/
import Derived.Test.YtgpfjcogaheopaaKit
import Derived.ProofKit
import Derived.SizedLaws
set_option linter.all false
namespace Go.Proofs.Ytgpfjcogaheopaa
open Go.ChangeShapes Go.WideShapes Go.ChangeAt Go.RowKit
theorem Try.own : ownKnob Try.prog.godebug = none := by kernel_rfl
theorem Try.laidOut : laidOutB Try.prog = true := by kernel_rfl
section
variable {H : Type} {enc : TypeId × Value → H} {P : Program}
theorem post_of_below {f : Func} {s : ChangeSpec} {apart fresh handsOn again : Bool} {W W' : World} {args : Array Value} {v : Value} {ds gs : List (DataW H)} {before pa pv : List MemPlace}
  (hW : DataW.Whole enc P f.params.toList s.vars apart W args.toList ds gs before)
  (hres : ∀ (b : Nat) (sp : Nat → Bool) (hd : Bool), DataW.TrodAll enc P W' b sp hd f.resultTypes.toList (v.resultList f.resultTypes.size) (s.fn H (ds ++ gs)).results [])
  (hargs : ∀ sp : Nat → Bool, (∀ p ∈ before, sp p.block = true) → DataW.TrodAll enc P W' 0 sp true f.params.toList args.toList (s.fn H (ds ++ gs)).args pa)
  (hvars : ∀ sp : Nat → Bool, (∀ p ∈ before, sp p.block = true) → DataW.TrodVars enc P W' sp s.vars (s.fn H (ds ++ gs)).vars pv)
  (hps : before = pa ++ pv) (hb : Below W.heap.size W W')
  (hok : ∀ (j : Nat) (t : TypeId) (r : Value), f.resultTypes[j]? = some t → (v.resultList f.resultTypes.size)[j]? = some r → Value.okWide P W' .any 0 t r) :
  s.post enc P f apart fresh handsOn again W args v W' := by
 have hlt : ∀ p ∈ before, p.block < W.heap.size := fun p hp => hW.lt p hp
 have hold : ∀ p ∈ before, (fun b => decide (b < W.heap.size)) p.block = true := fun p hp => by simpa using hlt p hp
 refine ⟨ds, gs, before, [], pa, pv, hW, hres _ _ _, hargs _ hold, hvars _ hold, World.keptBut_mono (fun p hp => ⟨hp, ?_⟩) (hb.frame (· ∈ before)), fun _ => ?_⟩
 ·rw [hps, List.mem_append] at hp
  exact Or.inr hp
 ·obtain ⟨_, _, _, _, _, hz, hn⟩ := hW
  refine ⟨hok, _, _, ([] ++ pa) ++ pv, ⟨[] ++ pa, pv, trodAll_append (hargs _ (fun _ _ => rfl)) (hres _ _ _), hvars _ (fun _ _ => rfl), rfl, ?_, ?_⟩, ?_⟩
  ·intro b off hp
   have hin : MemPlace.cell b off ∈ before := by rw [hps]; simpa using hp
   rw [hb.frozen (hlt _ hin)]
   exact hz b off hin
  ·intro ha
   have := hn ha
   rw [hps] at this
   simpa using this
  ·intro p hp _
   rw [hps]
   simpa using hp
theorem trodAll_below (hl : laidOutB P = true) {W W' : World} (hb : Below W.heap.size W W') (sp : Nat → Bool) :
  ∀ (ts : List TypeId) (vs : List Value) (ds : List (DataW H)) (ps : List MemPlace), (∀ t ∈ ts, P.readableRec t = true ∧ t < P.types.size) → (∀ x ∈ ps, x.block < W.heap.size) → (∀ x ∈ ps, sp x.block = true) →
   DataW.TrodAll enc P W 0 (fun _ => true) true ts vs ds ps → DataW.TrodAll enc P W' 0 sp true ts vs ds ps
 | [], vs, ds, ps, _, _, _, h => by
  obtain ⟨rfl, rfl, rfl⟩ := trodAll_nil h
  exact h
 | t :: ts, vs, ds, ps, hr, hlt, hsp, h => by
  obtain ⟨v, vs1, d, ds1, a, b, rfl, rfl, rfl, h1, h2⟩ := trodAll_cons h
  have hr0 := hr t (List.mem_cons_self ..)
  exact ⟨a, b, WideElems.Trod_stays hl hr0.1 hr0.2 h1 (fun x hx => hb.same (hlt x (List.mem_append_left _ hx))) (fun x hx => hsp x (List.mem_append_left _ hx)),
   trodAll_below hl hb sp ts vs1 ds1 b (fun t ht => hr t (List.mem_cons_of_mem _ ht)) (fun x hx => hlt x (List.mem_append_right _ hx)) (fun x hx => hsp x (List.mem_append_right _ hx)) h2, rfl⟩
theorem trodAll_length {W : World} {base : Nat} {sp : Nat → Bool} {held : Bool} : ∀ {ts : List TypeId} {vs : List Value} {ds : List (DataW H)} {ps : List MemPlace}, DataW.TrodAll enc P W base sp held ts vs ds ps → ds.length = ts.length
 | [], _, _, _, h => by obtain ⟨rfl, rfl, rfl⟩ := trodAll_nil h; rfl
 | _ :: ts, _, _, _, h => by
  obtain ⟨v, vs1, d, ds1, a, b, rfl, rfl, rfl, h1, h2⟩ := trodAll_cons h
  simp [trodAll_length h2]
end
/-- A law's row, out of its walk. -/
theorem law_lifted {os : Os} (started : os.Started) {H : Type} {enc : TypeId × Value → H} {fid : FuncId} {fn : Func} {spec : ChangeSpec} {tb : TypeId}
  (hfn : Try.prog.funcs[fid]? = some fn) (noInit : Try.checked.prog.inits.idxOf? fid = none) (hres : fn.resultTypes = #[tb]) (htb : Try.prog.underlying tb = some .bool) (hvars : spec.vars = [])
  (hspec : ∀ ds : List (DataW H), ds.length = fn.params.toList.length → spec.fn H ds = { results := [.lit (.bool true)], args := ds })
  (hread : ∀ t ∈ fn.params.toList, Try.prog.readableRec t = true ∧ t < Try.prog.types.size)
  (witness : ∃ (w : World) (tape : Tape) (i : Input), w.os = os ∧ (w.forCall tape i).Shaped Try.checked.prog ∧ i.vars = [] ∧ Input.okWide Try.checked.prog (w.forCall tape i) .any w.heap.size fid i ∧
   spec.pre6 enc Try.checked.prog fn [] false (w.forCall tape i).memory i.args ∧ ({} : Assume).holds Try.checked.prog (lone (Frame.enter Try.checked.prog fid i.args .normal) [] (w.forCall tape i)))
  (walk : ∀ (W : World) (base : Nat) (args : Array Value) (ds : List (DataW H)) (p : List MemPlace),
   (∀ (j : Nat) t v, fn.params[j]? = some t → args[j]? = some v → Value.okWide Try.prog W .any base t v) →
   DataW.TrodAll enc Try.prog W 0 (fun _ => true) true fn.params.toList args.toList ds p → (∀ x ∈ p, x.block < W.heap.size) →
   (DataW.weightsEach Try.prog fn.params.toList ds).all (· ≤ reachBytes) = true →
   Calls Try.prog fid args W fun e W' => e = .returned (.bool true) ∧ Below W.heap.size W W') :
  ReturnsInHanded {} Try.checked os fid .any (spec.pre6 enc Try.prog fn [] false) (spec.post enc Try.prog fn false true false false) := by
 refine returnsInHanded_of_change_sized (C := Try.checked) Try.own started noInit hfn witness ?_
 intro W base args ds gs before hval hW _ hsz _
 have hW' := hW
 obtain ⟨p, q, hA, hV, rfl, hfz, hnd⟩ := hW
 rw [hvars] at hV
 obtain ⟨rfl, rfl⟩ := trodVars_none hV
 have hvt : spec.plain.varTypes Try.checked.prog = [] := by
  simp [DataSpec.varTypes, ChangeSpec.plain, hvars]
 rw [hvt] at hsz
 simp only [List.append_nil] at hsz hW'
 have hlt : ∀ x ∈ p, x.block < W.heap.size := fun x hx => hW'.lt x hx
 have hlen : ds.length = fn.params.toList.length := trodAll_length hA
 refine (walk W base args ds p hval hA hlt hsz).mono fun e W' ⟨he, hb⟩ => ?_
 subst he
 have hs := hspec ds hlen
 refine ⟨_, rfl, post_of_below (pa := p) (pv := []) hW' (fun b sp hd => ?_) (fun sp hsp => ?_) (fun sp _ => ?_) (by simp) hb (ok_one hres rfl (okWide_bool_mk htb true))⟩
 ·rw [hres]
  simp only [List.append_nil, hs]
  exact trodAll_mk1 (shut_bool htb true)
 ·simp only [List.append_nil, hs]
  exact trodAll_below Try.laidOut hb sp _ _ _ _ hread hlt hsp hA
 ·rw [hvars]
  simp only [List.append_nil, hs]
  rfl
end Go.Proofs.Ytgpfjcogaheopaa
