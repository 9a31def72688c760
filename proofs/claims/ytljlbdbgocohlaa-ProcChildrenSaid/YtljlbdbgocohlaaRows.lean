/-
  No cell of these rows narrows 'for every input' (looked for: loops, veiled, ifaces, maps, wideKeys, modest, calm, conditions, laid).
  DERIVED. THE GIVEN ROWS OF THIS SEAT. 4 by the template 'for every input the law returns true; each argument reads behind the call as it read before'; 0 by the template 'total and deterministic' (their statements: YtljlbdbgocohlaaTotals.lean).
  GIVEN WITH THE SEED: the statements are not yours to turn. If you find one false, say at which input.
  Laid BY PROGRAM, IN A SANDBOX (cutbox-rows.mjs): the forced cells as the released guide's own fill.sh prints them over the translation 328d0a10debd6dae… (all of the seat's roots in one cut). By AI agents, Wed Nov 11 2026. No macro, syntax, notation, axiom, sorry.
-/
import Derived.Test.YtljlbdbgocohlaaChecked
import GoSem.Claim
import GoSem.ClaimJoined
import GoSem.ClaimMapViews
import Derived.JoinedTies
import Derived.KernelRfl
namespace Go.Proofs.Ytljlbdbgocohlaa
/- THE CELL 'sum', in the pinned program and in every row, IS THE sha256 OF THE DUMP (.gsa) THAT YtljlbdbgocohlaaProg.lean LOADS. Nothing in Lean hashes anything: it is a label: what it is worth is what the hold of that sum in a sandbox is worth. -/
noncomputable def Try.pinned : Pinned := { name := "ytljlbdbgocohlaa", sum := "328d0a10debd6dae06fd0f1cfffa4efc982f23cf822e0a36548ba104c5e5f5fb", checked := Try.checked }
namespace Rows
def none {H : Type} : Left H := { results := [], args := [] }

/-- 'almonerlaw11.ProcChildren': WHATEVER THE INPUT: true; the input reads as it did. -/
def procChildrenSpec : ChangeSpec := { name := "procChildren", fn := fun _ => fun
  | [d1, d2, d3] => { results := [.lit (.bool true)], args := [d1, d2, d3] }
  | _ => none }
def procChildrenRow : OpenClaim := { program := "ytljlbdbgocohlaa", sum := "328d0a10debd6dae06fd0f1cfffa4efc982f23cf822e0a36548ba104c5e5f5fb", func := "almoner/almonerlaw11.ProcChildren", spec := "procChildren", unfollowed := true, recurses := true, apart := false }
def ProcChildrenSaid : Prop := procChildrenRow.holds Try.pinned (OpenSpec.ofChange procChildrenSpec)

/-- ITS FALSE NEIGHBOUR: 'it returns false'. Refute it at one input. -/
def procChildrenWrong : ChangeSpec := { name := "procChildren", fn := fun _ => fun
  | [d1, d2, d3] => { results := [.lit (.bool false)], args := [d1, d2, d3] }
  | _ => none }
def ProcChildrenWrongFalsely : Prop := procChildrenRow.holds Try.pinned (OpenSpec.ofChange procChildrenWrong)

/-- 'almonerlaw11.ProcReaps': WHATEVER THE INPUT: true; the input reads as it did. -/
def procReapsSpec : ChangeSpec := { name := "procReaps", fn := fun _ => fun
  | [d] => { results := [.lit (.bool true)], args := [d] }
  | _ => none }
def procReapsRow : OpenClaim := { program := "ytljlbdbgocohlaa", sum := "328d0a10debd6dae06fd0f1cfffa4efc982f23cf822e0a36548ba104c5e5f5fb", func := "almoner/almonerlaw11.ProcReaps", spec := "procReaps", unfollowed := true, recurses := true, apart := false }
def ProcReapsSaid : Prop := procReapsRow.holds Try.pinned (OpenSpec.ofChange procReapsSpec)

/-- ITS FALSE NEIGHBOUR: 'it returns false'. Refute it at one input. -/
def procReapsWrong : ChangeSpec := { name := "procReaps", fn := fun _ => fun
  | [d] => { results := [.lit (.bool false)], args := [d] }
  | _ => none }
def ProcReapsWrongFalsely : Prop := procReapsRow.holds Try.pinned (OpenSpec.ofChange procReapsWrong)

/-- 'almonerlaw11.ProcBounds': WHATEVER THE INPUT: true; the input reads as it did. -/
def procBoundsSpec : ChangeSpec := { name := "procBounds", fn := fun _ => fun
  | [d] => { results := [.lit (.bool true)], args := [d] }
  | _ => none }
def procBoundsRow : OpenClaim := { program := "ytljlbdbgocohlaa", sum := "328d0a10debd6dae06fd0f1cfffa4efc982f23cf822e0a36548ba104c5e5f5fb", func := "almoner/almonerlaw11.ProcBounds", spec := "procBounds", unfollowed := true, recurses := true, apart := false }
def ProcBoundsSaid : Prop := procBoundsRow.holds Try.pinned (OpenSpec.ofChange procBoundsSpec)

/-- ITS FALSE NEIGHBOUR: 'it returns false'. Refute it at one input. -/
def procBoundsWrong : ChangeSpec := { name := "procBounds", fn := fun _ => fun
  | [d] => { results := [.lit (.bool false)], args := [d] }
  | _ => none }
def ProcBoundsWrongFalsely : Prop := procBoundsRow.holds Try.pinned (OpenSpec.ofChange procBoundsWrong)

/-- 'almonerlaw11.ProcPlays': WHATEVER THE INPUT: true; the input reads as it did. -/
def procPlaysSpec : ChangeSpec := { name := "procPlays", fn := fun _ => fun
  | [d] => { results := [.lit (.bool true)], args := [d] }
  | _ => none }
def procPlaysRow : OpenClaim := { program := "ytljlbdbgocohlaa", sum := "328d0a10debd6dae06fd0f1cfffa4efc982f23cf822e0a36548ba104c5e5f5fb", func := "almoner/almonerlaw11.ProcPlays", spec := "procPlays", unfollowed := true, recurses := true, apart := false }
def ProcPlaysSaid : Prop := procPlaysRow.holds Try.pinned (OpenSpec.ofChange procPlaysSpec)

/-- ITS FALSE NEIGHBOUR: 'it returns false'. Refute it at one input. -/
def procPlaysWrong : ChangeSpec := { name := "procPlays", fn := fun _ => fun
  | [d] => { results := [.lit (.bool false)], args := [d] }
  | _ => none }
def ProcPlaysWrongFalsely : Prop := procPlaysRow.holds Try.pinned (OpenSpec.ofChange procPlaysWrong)

/- THE SECOND FORM. 'bulk': how many values and letters a reading holds, each counted each time it is reached (what is shared counts as often as it is met; a slice's spare places count too). A statement '..UptoSaid' is the law's where the arguments, and the package variables that the reading takes, are together of bulk at most 1048576: NARROWER than '..Said'. Prove '..Said' where nothing that the law and all that it calls make is longer than what came in: it says more and counts as full. Else prove '..UptoSaid'. A law counts once. -/
mutual
def uptoBulk {H : Type} : DataW H → Nat
  | .lit (.string bytes) => bytes.length + 1
  | .lit _ => 1
  | .nil => 1
  | .ptr d => uptoBulk d + 1
  | .slice elems spare => uptoBulkAll elems + uptoBulkAll spare + 1
  | .agg parts => uptoBulkAll parts + 1
  | .iface _ d => uptoBulk d + 1
  | .map entries => uptoBulkEntries entries + 1
  | .held _ => 1
def uptoBulkAll {H : Type} : List (DataW H) → Nat
  | [] => 0
  | d :: r => uptoBulk d + uptoBulkAll r
def uptoBulkEntries {H : Type} : List (Lit × DataW H) → Nat
  | [] => 0
  | x :: r => uptoBulkEntry x + uptoBulkEntries r
def uptoBulkEntry {H : Type} : Lit × DataW H → Nat
  | (.string bytes, d) => bytes.length + uptoBulk d + 1
  | (_, d) => uptoBulk d + 1
 end
def uptoSmall : (H : Type) → List (DataW H) → Bool := fun _ ds => decide (uptoBulkAll ds ≤ 1048576)
def OpenSpec.upto (s : _root_.Go.ChangeSpec) : _root_.Go.OpenSpec := { _root_.Go.OpenSpec.ofChange s with cond := some uptoSmall }

/-- 'almonerlaw11.ProcChildren', WHERE WHAT IT READS IS OF BULK AT MOST 1048576: true; the input reads as it did. -/
def procChildrenUptoRow : OpenClaim := { program := "ytljlbdbgocohlaa", sum := "328d0a10debd6dae06fd0f1cfffa4efc982f23cf822e0a36548ba104c5e5f5fb", func := "almoner/almonerlaw11.ProcChildren", spec := "procChildren", unfollowed := true, recurses := true, apart := false, narrowed := true }
def ProcChildrenUptoSaid : Prop := procChildrenUptoRow.holds Try.pinned (OpenSpec.upto procChildrenSpec)

/-- 'almonerlaw11.ProcReaps', WHERE WHAT IT READS IS OF BULK AT MOST 1048576: true; the input reads as it did. -/
def procReapsUptoRow : OpenClaim := { program := "ytljlbdbgocohlaa", sum := "328d0a10debd6dae06fd0f1cfffa4efc982f23cf822e0a36548ba104c5e5f5fb", func := "almoner/almonerlaw11.ProcReaps", spec := "procReaps", unfollowed := true, recurses := true, apart := false, narrowed := true }
def ProcReapsUptoSaid : Prop := procReapsUptoRow.holds Try.pinned (OpenSpec.upto procReapsSpec)

/-- 'almonerlaw11.ProcBounds', WHERE WHAT IT READS IS OF BULK AT MOST 1048576: true; the input reads as it did. -/
def procBoundsUptoRow : OpenClaim := { program := "ytljlbdbgocohlaa", sum := "328d0a10debd6dae06fd0f1cfffa4efc982f23cf822e0a36548ba104c5e5f5fb", func := "almoner/almonerlaw11.ProcBounds", spec := "procBounds", unfollowed := true, recurses := true, apart := false, narrowed := true }
def ProcBoundsUptoSaid : Prop := procBoundsUptoRow.holds Try.pinned (OpenSpec.upto procBoundsSpec)

/-- 'almonerlaw11.ProcPlays', WHERE WHAT IT READS IS OF BULK AT MOST 1048576: true; the input reads as it did. -/
def procPlaysUptoRow : OpenClaim := { program := "ytljlbdbgocohlaa", sum := "328d0a10debd6dae06fd0f1cfffa4efc982f23cf822e0a36548ba104c5e5f5fb", func := "almoner/almonerlaw11.ProcPlays", spec := "procPlays", unfollowed := true, recurses := true, apart := false, narrowed := true }
def ProcPlaysUptoSaid : Prop := procPlaysUptoRow.holds Try.pinned (OpenSpec.upto procPlaysSpec)

end Rows
end Go.Proofs.Ytljlbdbgocohlaa
