/-
  No cell of these rows narrows 'for every input' (looked for: loops, veiled, ifaces, maps, wideKeys, modest, calm, conditions, laid).
  DERIVED. THE GIVEN ROWS OF THIS SEAT. 6 by the template 'for every input the law returns true; each argument reads behind the call as it read before'; 0 by the template 'total and deterministic' (their statements: YtpabcopkecgphaaTotals.lean).
  GIVEN WITH THE SEED: the statements are not yours to turn. If you find one false, say at which input.
  Laid BY PROGRAM, IN A SANDBOX (cutbox-rows.mjs): the forced cells as the released guide's own fill.sh prints them over the translation 983b73147b0a789e… (all of the seat's roots in one cut). By AI agents, Wed Nov 11 2026. No macro, syntax, notation, axiom, sorry.
-/
import Derived.Test.YtpabcopkecgphaaChecked
import GoSem.Claim
import GoSem.ClaimJoined
import GoSem.ClaimMapViews
import Derived.JoinedTies
import Derived.KernelRfl
namespace Go.Proofs.Ytpabcopkecgphaa
/- THE CELL 'sum', in the pinned program and in every row, IS THE sha256 OF THE DUMP (.gsa) THAT YtpabcopkecgphaaProg.lean LOADS. Nothing in Lean hashes anything: it is a label: what it is worth is what the hold of that sum in a sandbox is worth. -/
noncomputable def Try.pinned : Pinned := { name := "ytpabcopkecgphaa", sum := "983b73147b0a789e608fdc76193326f76bd31dd9abe9389cd2659df74cfcb715", checked := Try.checked }
namespace Rows
def none {H : Type} : Left H := { results := [], args := [] }

/-- 'almonerlaw10.TtyLines': WHATEVER THE INPUT: true; the input reads as it did. -/
def ttyLinesSpec : ChangeSpec := { name := "ttyLines", fn := fun _ => fun
  | [d1, d2] => { results := [.lit (.bool true)], args := [d1, d2] }
  | _ => none }
def ttyLinesRow : OpenClaim := { program := "ytpabcopkecgphaa", sum := "983b73147b0a789e608fdc76193326f76bd31dd9abe9389cd2659df74cfcb715", func := "almoner/almonerlaw10.TtyLines", spec := "ttyLines", inPlace := ["internal/abi.NoEscape"], apart := false }
def TtyLinesSaid : Prop := ttyLinesRow.holds Try.pinned (OpenSpec.ofChange ttyLinesSpec)

/-- ITS FALSE NEIGHBOUR: 'it returns false'. Refute it at one input. -/
def ttyLinesWrong : ChangeSpec := { name := "ttyLines", fn := fun _ => fun
  | [d1, d2] => { results := [.lit (.bool false)], args := [d1, d2] }
  | _ => none }
def TtyLinesWrongFalsely : Prop := ttyLinesRow.holds Try.pinned (OpenSpec.ofChange ttyLinesWrong)

/-- 'almonerlaw10.TtyKills': WHATEVER THE INPUT: true; the input reads as it did. -/
def ttyKillsSpec : ChangeSpec := { name := "ttyKills", fn := fun _ => fun
  | [d1, d2] => { results := [.lit (.bool true)], args := [d1, d2] }
  | _ => none }
def ttyKillsRow : OpenClaim := { program := "ytpabcopkecgphaa", sum := "983b73147b0a789e608fdc76193326f76bd31dd9abe9389cd2659df74cfcb715", func := "almoner/almonerlaw10.TtyKills", spec := "ttyKills", inPlace := ["internal/abi.NoEscape"], apart := false }
def TtyKillsSaid : Prop := ttyKillsRow.holds Try.pinned (OpenSpec.ofChange ttyKillsSpec)

/-- ITS FALSE NEIGHBOUR: 'it returns false'. Refute it at one input. -/
def ttyKillsWrong : ChangeSpec := { name := "ttyKills", fn := fun _ => fun
  | [d1, d2] => { results := [.lit (.bool false)], args := [d1, d2] }
  | _ => none }
def TtyKillsWrongFalsely : Prop := ttyKillsRow.holds Try.pinned (OpenSpec.ofChange ttyKillsWrong)

/-- 'almonerlaw10.TtyEnds': WHATEVER THE INPUT: true; the input reads as it did. -/
def ttyEndsSpec : ChangeSpec := { name := "ttyEnds", fn := fun _ => fun
  | [d1, d2] => { results := [.lit (.bool true)], args := [d1, d2] }
  | _ => none }
def ttyEndsRow : OpenClaim := { program := "ytpabcopkecgphaa", sum := "983b73147b0a789e608fdc76193326f76bd31dd9abe9389cd2659df74cfcb715", func := "almoner/almonerlaw10.TtyEnds", spec := "ttyEnds", inPlace := ["internal/abi.NoEscape"], apart := false }
def TtyEndsSaid : Prop := ttyEndsRow.holds Try.pinned (OpenSpec.ofChange ttyEndsSpec)

/-- ITS FALSE NEIGHBOUR: 'it returns false'. Refute it at one input. -/
def ttyEndsWrong : ChangeSpec := { name := "ttyEnds", fn := fun _ => fun
  | [d1, d2] => { results := [.lit (.bool false)], args := [d1, d2] }
  | _ => none }
def TtyEndsWrongFalsely : Prop := ttyEndsRow.holds Try.pinned (OpenSpec.ofChange ttyEndsWrong)

/-- 'almonerlaw10.TtyHides': WHATEVER THE INPUT: true; the input reads as it did. -/
def ttyHidesSpec : ChangeSpec := { name := "ttyHides", fn := fun _ => fun
  | [d1, d2, d3] => { results := [.lit (.bool true)], args := [d1, d2, d3] }
  | _ => none }
def ttyHidesRow : OpenClaim := { program := "ytpabcopkecgphaa", sum := "983b73147b0a789e608fdc76193326f76bd31dd9abe9389cd2659df74cfcb715", func := "almoner/almonerlaw10.TtyHides", spec := "ttyHides", inPlace := ["internal/abi.NoEscape"], apart := false }
def TtyHidesSaid : Prop := ttyHidesRow.holds Try.pinned (OpenSpec.ofChange ttyHidesSpec)

/-- ITS FALSE NEIGHBOUR: 'it returns false'. Refute it at one input. -/
def ttyHidesWrong : ChangeSpec := { name := "ttyHides", fn := fun _ => fun
  | [d1, d2, d3] => { results := [.lit (.bool false)], args := [d1, d2, d3] }
  | _ => none }
def TtyHidesWrongFalsely : Prop := ttyHidesRow.holds Try.pinned (OpenSpec.ofChange ttyHidesWrong)

/-- 'almonerlaw10.TtyBounds': WHATEVER THE INPUT: true; the input reads as it did. -/
def ttyBoundsSpec : ChangeSpec := { name := "ttyBounds", fn := fun _ => fun
  | [d] => { results := [.lit (.bool true)], args := [d] }
  | _ => none }
def ttyBoundsRow : OpenClaim := { program := "ytpabcopkecgphaa", sum := "983b73147b0a789e608fdc76193326f76bd31dd9abe9389cd2659df74cfcb715", func := "almoner/almonerlaw10.TtyBounds", spec := "ttyBounds", inPlace := ["internal/abi.NoEscape"], apart := false }
def TtyBoundsSaid : Prop := ttyBoundsRow.holds Try.pinned (OpenSpec.ofChange ttyBoundsSpec)

/-- ITS FALSE NEIGHBOUR: 'it returns false'. Refute it at one input. -/
def ttyBoundsWrong : ChangeSpec := { name := "ttyBounds", fn := fun _ => fun
  | [d] => { results := [.lit (.bool false)], args := [d] }
  | _ => none }
def TtyBoundsWrongFalsely : Prop := ttyBoundsRow.holds Try.pinned (OpenSpec.ofChange ttyBoundsWrong)

/-- 'almonerlaw10.TtyPlays': WHATEVER THE INPUT: true; the input reads as it did. -/
def ttyPlaysSpec : ChangeSpec := { name := "ttyPlays", fn := fun _ => fun
  | [d] => { results := [.lit (.bool true)], args := [d] }
  | _ => none }
def ttyPlaysRow : OpenClaim := { program := "ytpabcopkecgphaa", sum := "983b73147b0a789e608fdc76193326f76bd31dd9abe9389cd2659df74cfcb715", func := "almoner/almonerlaw10.TtyPlays", spec := "ttyPlays", inPlace := ["internal/abi.NoEscape"], apart := false }
def TtyPlaysSaid : Prop := ttyPlaysRow.holds Try.pinned (OpenSpec.ofChange ttyPlaysSpec)

/-- ITS FALSE NEIGHBOUR: 'it returns false'. Refute it at one input. -/
def ttyPlaysWrong : ChangeSpec := { name := "ttyPlays", fn := fun _ => fun
  | [d] => { results := [.lit (.bool false)], args := [d] }
  | _ => none }
def TtyPlaysWrongFalsely : Prop := ttyPlaysRow.holds Try.pinned (OpenSpec.ofChange ttyPlaysWrong)

/- THE SECOND FORM. 'bulk': how many values and letters a reading holds, each counted each time it is reached (what is shared counts as often as it is met; a slice's spare places count too). A statement '..UptoSaid' is the law's where the arguments, and the package variables that the reading takes, are together of bulk at most 1048576: NARROWER than '..Said'. Prove '..Said' where nothing that the law and all that it calls make is longer than what came in: it says more and counts as full. Else prove '..UptoSaid'. A law counts once. -/
mutual
def uptoBulk {H : Type} : DataW H → Nat
  | .lit (.string bytes) => bytes.length + 1
  | .lit _ => 1
  | .nil => 1
  | .ptr d => uptoBulk d + 1
  | .slice elems spare => uptoBulkAll elems + uptoBulkAll spare + 1
  | .agg parts => uptoBulkAll parts + 1
  | .iface _ d => uptoBulk d + 1
  | .map entries => uptoBulkEntries entries + 1
  | .held _ => 1
def uptoBulkAll {H : Type} : List (DataW H) → Nat
  | [] => 0
  | d :: r => uptoBulk d + uptoBulkAll r
def uptoBulkEntries {H : Type} : List (Lit × DataW H) → Nat
  | [] => 0
  | x :: r => uptoBulkEntry x + uptoBulkEntries r
def uptoBulkEntry {H : Type} : Lit × DataW H → Nat
  | (.string bytes, d) => bytes.length + uptoBulk d + 1
  | (_, d) => uptoBulk d + 1
 end
def uptoSmall : (H : Type) → List (DataW H) → Bool := fun _ ds => decide (uptoBulkAll ds ≤ 1048576)
def OpenSpec.upto (s : _root_.Go.ChangeSpec) : _root_.Go.OpenSpec := { _root_.Go.OpenSpec.ofChange s with cond := some uptoSmall }

/-- 'almonerlaw10.TtyLines', WHERE WHAT IT READS IS OF BULK AT MOST 1048576: true; the input reads as it did. -/
def ttyLinesUptoRow : OpenClaim := { program := "ytpabcopkecgphaa", sum := "983b73147b0a789e608fdc76193326f76bd31dd9abe9389cd2659df74cfcb715", func := "almoner/almonerlaw10.TtyLines", spec := "ttyLines", inPlace := ["internal/abi.NoEscape"], apart := false, narrowed := true }
def TtyLinesUptoSaid : Prop := ttyLinesUptoRow.holds Try.pinned (OpenSpec.upto ttyLinesSpec)

/-- 'almonerlaw10.TtyKills', WHERE WHAT IT READS IS OF BULK AT MOST 1048576: true; the input reads as it did. -/
def ttyKillsUptoRow : OpenClaim := { program := "ytpabcopkecgphaa", sum := "983b73147b0a789e608fdc76193326f76bd31dd9abe9389cd2659df74cfcb715", func := "almoner/almonerlaw10.TtyKills", spec := "ttyKills", inPlace := ["internal/abi.NoEscape"], apart := false, narrowed := true }
def TtyKillsUptoSaid : Prop := ttyKillsUptoRow.holds Try.pinned (OpenSpec.upto ttyKillsSpec)

/-- 'almonerlaw10.TtyEnds', WHERE WHAT IT READS IS OF BULK AT MOST 1048576: true; the input reads as it did. -/
def ttyEndsUptoRow : OpenClaim := { program := "ytpabcopkecgphaa", sum := "983b73147b0a789e608fdc76193326f76bd31dd9abe9389cd2659df74cfcb715", func := "almoner/almonerlaw10.TtyEnds", spec := "ttyEnds", inPlace := ["internal/abi.NoEscape"], apart := false, narrowed := true }
def TtyEndsUptoSaid : Prop := ttyEndsUptoRow.holds Try.pinned (OpenSpec.upto ttyEndsSpec)

/-- 'almonerlaw10.TtyHides', WHERE WHAT IT READS IS OF BULK AT MOST 1048576: true; the input reads as it did. -/
def ttyHidesUptoRow : OpenClaim := { program := "ytpabcopkecgphaa", sum := "983b73147b0a789e608fdc76193326f76bd31dd9abe9389cd2659df74cfcb715", func := "almoner/almonerlaw10.TtyHides", spec := "ttyHides", inPlace := ["internal/abi.NoEscape"], apart := false, narrowed := true }
def TtyHidesUptoSaid : Prop := ttyHidesUptoRow.holds Try.pinned (OpenSpec.upto ttyHidesSpec)

/-- 'almonerlaw10.TtyBounds', WHERE WHAT IT READS IS OF BULK AT MOST 1048576: true; the input reads as it did. -/
def ttyBoundsUptoRow : OpenClaim := { program := "ytpabcopkecgphaa", sum := "983b73147b0a789e608fdc76193326f76bd31dd9abe9389cd2659df74cfcb715", func := "almoner/almonerlaw10.TtyBounds", spec := "ttyBounds", inPlace := ["internal/abi.NoEscape"], apart := false, narrowed := true }
def TtyBoundsUptoSaid : Prop := ttyBoundsUptoRow.holds Try.pinned (OpenSpec.upto ttyBoundsSpec)

/-- 'almonerlaw10.TtyPlays', WHERE WHAT IT READS IS OF BULK AT MOST 1048576: true; the input reads as it did. -/
def ttyPlaysUptoRow : OpenClaim := { program := "ytpabcopkecgphaa", sum := "983b73147b0a789e608fdc76193326f76bd31dd9abe9389cd2659df74cfcb715", func := "almoner/almonerlaw10.TtyPlays", spec := "ttyPlays", inPlace := ["internal/abi.NoEscape"], apart := false, narrowed := true }
def TtyPlaysUptoSaid : Prop := ttyPlaysUptoRow.holds Try.pinned (OpenSpec.upto ttyPlaysSpec)

end Rows
end Go.Proofs.Ytpabcopkecgphaa
