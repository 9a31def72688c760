/- append onto a slice that is owned, at a step of a region that draws its order. -/
import Derived.Test.YtgpfjcogaheopaaOwn
import Derived.Deep.RegionHeld3
set_option linter.all false
namespace Go.Proofs.Ytgpfjcogaheopaa
open Go.RowKit
/-- The same at a step of a region that draws its order. -/
theorem step_appAt {P : Program} {ops : Array Oper} {o : Oper} {a : Act} {w : World} {K : Act → World → Prop} {Q : Exit → Act → World → Prop} {E : Prop} (hgd : o.guard = none) (s x : Operand) (T U : TypeId)
  (ho : o.op = .call { callee := .builtin .append, args := #[s, x], argTypes := #[T, U] })
  (e : TypeId) (z : Value) (size bytes : Nat) (ht : P.underlying T = some (.slice e)) (hinfo : (P.info? e).map (fun i => (i.zero, i.size, i.bytes)) = some (some z, size, bytes))
  (hzs : z.cells.size = size) (v : Value) (n : Nat) (xs : List Value) (k : Nat) (y : Value) (m : Nat) (news : List Value) (hs : a.eval s = v) (hx : a.eval x = y)
  (hown : Own w e size v n xs k) (hk : k ≤ n * size) (hsrc : Src P size U y m news w) (h63 : n + m ≤ maxLen) (hbytes : (n + m) * bytes ≤ 140737488355328)
  (h : ∀ v' w', Own w' e size v' (n + m) (xs ++ news) k → Chg (fun b => v.ownBlock = some b) w w' → (∀ b, v'.ownBlock = some b → v.ownBlock = some b ∨ w.heap.size ≤ b) → (m = 0 → v' = v) → K (a.put o.dst v') w') :
  if Region.wanted o (yielded ops a.tmps) = true then Oper.wp P o a w K Q else E := by
 have hw : Region.wanted o (yielded ops a.tmps) = true := by simp [Region.wanted, hgd]
 rw [if_pos hw]
 obtain ⟨i, hi, hz, hsize, hby⟩ := info_parts hinfo
 obtain ⟨v', w', hr, h2, h3, h4, h5⟩ := run_append_at (P := P) w T U o.type e i z size bytes ht hi hz hsize hby hzs v n xs k hown hk y m news hsrc h63 hbytes
 unfold Oper.wp execOp
 simp only [ho, resolve, invoke, builtin, Sem.run_bind, Sem.run_pure, Result.andThen_ok, List.map_toArray, List.map_cons, List.map_nil, hs, hx, hr]
 exact h v' w' h2 h3 h4 h5
end Go.Proofs.Ytgpfjcogaheopaa
