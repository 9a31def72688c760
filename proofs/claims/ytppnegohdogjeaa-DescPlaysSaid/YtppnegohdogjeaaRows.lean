/-
  No cell of these rows narrows 'for every input' (looked for: loops, veiled, ifaces, maps, wideKeys, modest, calm, conditions, laid).
  DERIVED. THE GIVEN ROWS OF THIS SEAT. 5 by the template 'for every input the law returns true; each argument reads behind the call as it read before'; 0 by the template 'total and deterministic' (their statements: YtppnegohdogjeaaTotals.lean).
  GIVEN WITH THE SEED: the statements are not yours to turn. If you find one false, say at which input.
  Laid BY PROGRAM, IN A SANDBOX (cutbox-rows.mjs): the forced cells as the released guide's own fill.sh prints them over the translation b98bc8a0d737e3f4… (all of the seat's roots in one cut). By AI agents, Wed Nov 11 2026. No macro, syntax, notation, axiom, sorry.
-/
import Derived.Test.YtppnegohdogjeaaChecked
import GoSem.Claim
import GoSem.ClaimJoined
import GoSem.ClaimMapViews
import Derived.JoinedTies
import Derived.KernelRfl
namespace Go.Proofs.Ytppnegohdogjeaa
/- THE CELL 'sum', in the pinned program and in every row, IS THE sha256 OF THE DUMP (.gsa) THAT YtppnegohdogjeaaProg.lean LOADS. Nothing in Lean hashes anything: it is a label: what it is worth is what the hold of that sum in a sandbox is worth. -/
noncomputable def Try.pinned : Pinned := { name := "ytppnegohdogjeaa", sum := "b98bc8a0d737e3f4e1287dbc25f48bb0869c592c21da4fe35501a8041aefe597", checked := Try.checked }
namespace Rows
def none {H : Type} : Left H := { results := [], args := [] }

/-- 'almonerlaw09.DescRows': WHATEVER THE INPUT: true; the input reads as it did. -/
def descRowsSpec : ChangeSpec := { name := "descRows", fn := fun _ => fun
  | [d1, d2, d3, d4] => { results := [.lit (.bool true)], args := [d1, d2, d3, d4] }
  | _ => none }
def descRowsRow : OpenClaim := { program := "ytppnegohdogjeaa", sum := "b98bc8a0d737e3f4e1287dbc25f48bb0869c592c21da4fe35501a8041aefe597", func := "almoner/almonerlaw09.DescRows", spec := "descRows", unfollowed := true, recurses := true, apart := false }
def DescRowsSaid : Prop := descRowsRow.holds Try.pinned (OpenSpec.ofChange descRowsSpec)

/-- ITS FALSE NEIGHBOUR: 'it returns false'. Refute it at one input. -/
def descRowsWrong : ChangeSpec := { name := "descRows", fn := fun _ => fun
  | [d1, d2, d3, d4] => { results := [.lit (.bool false)], args := [d1, d2, d3, d4] }
  | _ => none }
def DescRowsWrongFalsely : Prop := descRowsRow.holds Try.pinned (OpenSpec.ofChange descRowsWrong)

/-- 'almonerlaw09.DescTakes': WHATEVER THE INPUT: true; the input reads as it did. -/
def descTakesSpec : ChangeSpec := { name := "descTakes", fn := fun _ => fun
  | [d] => { results := [.lit (.bool true)], args := [d] }
  | _ => none }
def descTakesRow : OpenClaim := { program := "ytppnegohdogjeaa", sum := "b98bc8a0d737e3f4e1287dbc25f48bb0869c592c21da4fe35501a8041aefe597", func := "almoner/almonerlaw09.DescTakes", spec := "descTakes", unfollowed := true, recurses := true, apart := false }
def DescTakesSaid : Prop := descTakesRow.holds Try.pinned (OpenSpec.ofChange descTakesSpec)

/-- ITS FALSE NEIGHBOUR: 'it returns false'. Refute it at one input. -/
def descTakesWrong : ChangeSpec := { name := "descTakes", fn := fun _ => fun
  | [d] => { results := [.lit (.bool false)], args := [d] }
  | _ => none }
def DescTakesWrongFalsely : Prop := descTakesRow.holds Try.pinned (OpenSpec.ofChange descTakesWrong)

/-- 'almonerlaw09.DescFull': WHATEVER THE INPUT: true; the input reads as it did. -/
def descFullSpec : ChangeSpec := { name := "descFull", fn := fun _ => fun
  | [d1, d2] => { results := [.lit (.bool true)], args := [d1, d2] }
  | _ => none }
def descFullRow : OpenClaim := { program := "ytppnegohdogjeaa", sum := "b98bc8a0d737e3f4e1287dbc25f48bb0869c592c21da4fe35501a8041aefe597", func := "almoner/almonerlaw09.DescFull", spec := "descFull", unfollowed := true, recurses := true, apart := false }
def DescFullSaid : Prop := descFullRow.holds Try.pinned (OpenSpec.ofChange descFullSpec)

/-- ITS FALSE NEIGHBOUR: 'it returns false'. Refute it at one input. -/
def descFullWrong : ChangeSpec := { name := "descFull", fn := fun _ => fun
  | [d1, d2] => { results := [.lit (.bool false)], args := [d1, d2] }
  | _ => none }
def DescFullWrongFalsely : Prop := descFullRow.holds Try.pinned (OpenSpec.ofChange descFullWrong)

/-- 'almonerlaw09.DescPlays': WHATEVER THE INPUT: true; the input reads as it did. -/
def descPlaysSpec : ChangeSpec := { name := "descPlays", fn := fun _ => fun
  | [d] => { results := [.lit (.bool true)], args := [d] }
  | _ => none }
def descPlaysRow : OpenClaim := { program := "ytppnegohdogjeaa", sum := "b98bc8a0d737e3f4e1287dbc25f48bb0869c592c21da4fe35501a8041aefe597", func := "almoner/almonerlaw09.DescPlays", spec := "descPlays", unfollowed := true, recurses := true, apart := false }
def DescPlaysSaid : Prop := descPlaysRow.holds Try.pinned (OpenSpec.ofChange descPlaysSpec)

/-- ITS FALSE NEIGHBOUR: 'it returns false'. Refute it at one input. -/
def descPlaysWrong : ChangeSpec := { name := "descPlays", fn := fun _ => fun
  | [d] => { results := [.lit (.bool false)], args := [d] }
  | _ => none }
def DescPlaysWrongFalsely : Prop := descPlaysRow.holds Try.pinned (OpenSpec.ofChange descPlaysWrong)

/-- 'almonerlaw09.DescSeeks': WHATEVER THE INPUT: true; the input reads as it did. -/
def descSeeksSpec : ChangeSpec := { name := "descSeeks", fn := fun _ => fun
  | [d1, d2] => { results := [.lit (.bool true)], args := [d1, d2] }
  | _ => none }
def descSeeksRow : OpenClaim := { program := "ytppnegohdogjeaa", sum := "b98bc8a0d737e3f4e1287dbc25f48bb0869c592c21da4fe35501a8041aefe597", func := "almoner/almonerlaw09.DescSeeks", spec := "descSeeks", unfollowed := true, recurses := true, apart := false }
def DescSeeksSaid : Prop := descSeeksRow.holds Try.pinned (OpenSpec.ofChange descSeeksSpec)

/-- ITS FALSE NEIGHBOUR: 'it returns false'. Refute it at one input. -/
def descSeeksWrong : ChangeSpec := { name := "descSeeks", fn := fun _ => fun
  | [d1, d2] => { results := [.lit (.bool false)], args := [d1, d2] }
  | _ => none }
def DescSeeksWrongFalsely : Prop := descSeeksRow.holds Try.pinned (OpenSpec.ofChange descSeeksWrong)

/- THE SECOND FORM. 'bulk': how many values and letters a reading holds, each counted each time it is reached (what is shared counts as often as it is met; a slice's spare places count too). A statement '..UptoSaid' is the law's where the arguments, and the package variables that the reading takes, are together of bulk at most 1048576: NARROWER than '..Said'. Prove '..Said' where nothing that the law and all that it calls make is longer than what came in: it says more and counts as full. Else prove '..UptoSaid'. A law counts once. -/
mutual
def uptoBulk {H : Type} : DataW H → Nat
  | .lit (.string bytes) => bytes.length + 1
  | .lit _ => 1
  | .nil => 1
  | .ptr d => uptoBulk d + 1
  | .slice elems spare => uptoBulkAll elems + uptoBulkAll spare + 1
  | .agg parts => uptoBulkAll parts + 1
  | .iface _ d => uptoBulk d + 1
  | .map entries => uptoBulkEntries entries + 1
  | .held _ => 1
def uptoBulkAll {H : Type} : List (DataW H) → Nat
  | [] => 0
  | d :: r => uptoBulk d + uptoBulkAll r
def uptoBulkEntries {H : Type} : List (Lit × DataW H) → Nat
  | [] => 0
  | x :: r => uptoBulkEntry x + uptoBulkEntries r
def uptoBulkEntry {H : Type} : Lit × DataW H → Nat
  | (.string bytes, d) => bytes.length + uptoBulk d + 1
  | (_, d) => uptoBulk d + 1
 end
def uptoSmall : (H : Type) → List (DataW H) → Bool := fun _ ds => decide (uptoBulkAll ds ≤ 1048576)
def OpenSpec.upto (s : _root_.Go.ChangeSpec) : _root_.Go.OpenSpec := { _root_.Go.OpenSpec.ofChange s with cond := some uptoSmall }

/-- 'almonerlaw09.DescRows', WHERE WHAT IT READS IS OF BULK AT MOST 1048576: true; the input reads as it did. -/
def descRowsUptoRow : OpenClaim := { program := "ytppnegohdogjeaa", sum := "b98bc8a0d737e3f4e1287dbc25f48bb0869c592c21da4fe35501a8041aefe597", func := "almoner/almonerlaw09.DescRows", spec := "descRows", unfollowed := true, recurses := true, apart := false, narrowed := true }
def DescRowsUptoSaid : Prop := descRowsUptoRow.holds Try.pinned (OpenSpec.upto descRowsSpec)

/-- 'almonerlaw09.DescTakes', WHERE WHAT IT READS IS OF BULK AT MOST 1048576: true; the input reads as it did. -/
def descTakesUptoRow : OpenClaim := { program := "ytppnegohdogjeaa", sum := "b98bc8a0d737e3f4e1287dbc25f48bb0869c592c21da4fe35501a8041aefe597", func := "almoner/almonerlaw09.DescTakes", spec := "descTakes", unfollowed := true, recurses := true, apart := false, narrowed := true }
def DescTakesUptoSaid : Prop := descTakesUptoRow.holds Try.pinned (OpenSpec.upto descTakesSpec)

/-- 'almonerlaw09.DescFull', WHERE WHAT IT READS IS OF BULK AT MOST 1048576: true; the input reads as it did. -/
def descFullUptoRow : OpenClaim := { program := "ytppnegohdogjeaa", sum := "b98bc8a0d737e3f4e1287dbc25f48bb0869c592c21da4fe35501a8041aefe597", func := "almoner/almonerlaw09.DescFull", spec := "descFull", unfollowed := true, recurses := true, apart := false, narrowed := true }
def DescFullUptoSaid : Prop := descFullUptoRow.holds Try.pinned (OpenSpec.upto descFullSpec)

/-- 'almonerlaw09.DescPlays', WHERE WHAT IT READS IS OF BULK AT MOST 1048576: true; the input reads as it did. -/
def descPlaysUptoRow : OpenClaim := { program := "ytppnegohdogjeaa", sum := "b98bc8a0d737e3f4e1287dbc25f48bb0869c592c21da4fe35501a8041aefe597", func := "almoner/almonerlaw09.DescPlays", spec := "descPlays", unfollowed := true, recurses := true, apart := false, narrowed := true }
def DescPlaysUptoSaid : Prop := descPlaysUptoRow.holds Try.pinned (OpenSpec.upto descPlaysSpec)

/-- 'almonerlaw09.DescSeeks', WHERE WHAT IT READS IS OF BULK AT MOST 1048576: true; the input reads as it did. -/
def descSeeksUptoRow : OpenClaim := { program := "ytppnegohdogjeaa", sum := "b98bc8a0d737e3f4e1287dbc25f48bb0869c592c21da4fe35501a8041aefe597", func := "almoner/almonerlaw09.DescSeeks", spec := "descSeeks", unfollowed := true, recurses := true, apart := false, narrowed := true }
def DescSeeksUptoSaid : Prop := descSeeksUptoRow.holds Try.pinned (OpenSpec.upto descSeeksSpec)

end Rows
end Go.Proofs.Ytppnegohdogjeaa
