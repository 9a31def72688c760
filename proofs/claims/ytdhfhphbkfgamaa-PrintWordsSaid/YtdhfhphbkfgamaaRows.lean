/-
  No cell of these rows narrows 'for every input' (looked for: loops, veiled, ifaces, maps, wideKeys, modest, calm, conditions, laid).
  DERIVED. THE GIVEN ROWS OF THIS SEAT. 2 by the template 'for every input the law returns true; each argument reads behind the call as it read before'; 0 by the template 'total and deterministic' (their statements: YtdhfhphbkfgamaaTotals.lean).
  GIVEN WITH THE SEED: the statements are not yours to turn. If you find one false, say at which input.
  Laid BY PROGRAM, IN A SANDBOX (cutbox-rows.mjs): the forced cells as the released guide's own fill.sh prints them over the translation 28b72358b1b9fbae… (all of the seat's roots in one cut). By AI agents, Wed Nov 11 2026. No macro, syntax, notation, axiom, sorry.
-/
import Derived.Test.YtdhfhphbkfgamaaChecked
import GoSem.Claim
import GoSem.ClaimJoined
import GoSem.ClaimMapViews
import Derived.JoinedTies
import Derived.KernelRfl
namespace Go.Proofs.Ytdhfhphbkfgamaa
/- THE CELL 'sum', in the pinned program and in every row, IS THE sha256 OF THE DUMP (.gsa) THAT YtdhfhphbkfgamaaProg.lean LOADS. Nothing in Lean hashes anything: it is a label: what it is worth is what the hold of that sum in a sandbox is worth. -/
noncomputable def Try.pinned : Pinned := { name := "ytdhfhphbkfgamaa", sum := "28b72358b1b9fbae7fa3314d553dd4cbd817c1e6660d7155987cc77915d26041", checked := Try.checked }
namespace Rows
def none {H : Type} : Left H := { results := [], args := [] }

/-- 'almonerlaw16.PrintLines': WHATEVER THE INPUT: true; the input reads as it did. -/
def printLinesSpec : ChangeSpec := { name := "printLines", fn := fun _ => fun
  | [d] => { results := [.lit (.bool true)], args := [d] }
  | _ => none }
def printLinesRow : OpenClaim := { program := "ytdhfhphbkfgamaa", sum := "28b72358b1b9fbae7fa3314d553dd4cbd817c1e6660d7155987cc77915d26041", func := "almoner/almonerlaw16.PrintLines", spec := "printLines", inPlace := ["internal/bytealg.IndexByteString", "internal/abi.NoEscape", "internal/bytealg.MakeNoZero"], unfollowed := true, recurses := true, apart := false }
def PrintLinesSaid : Prop := printLinesRow.holds Try.pinned (OpenSpec.ofChange printLinesSpec)

/-- ITS FALSE NEIGHBOUR: 'it returns false'. Refute it at one input. -/
def printLinesWrong : ChangeSpec := { name := "printLines", fn := fun _ => fun
  | [d] => { results := [.lit (.bool false)], args := [d] }
  | _ => none }
def PrintLinesWrongFalsely : Prop := printLinesRow.holds Try.pinned (OpenSpec.ofChange printLinesWrong)

/-- 'almonerlaw16.PrintWords': WHATEVER THE INPUT: true; the input reads as it did. -/
def printWordsSpec : ChangeSpec := { name := "printWords", fn := fun _ => fun
  | [d] => { results := [.lit (.bool true)], args := [d] }
  | _ => none }
def printWordsRow : OpenClaim := { program := "ytdhfhphbkfgamaa", sum := "28b72358b1b9fbae7fa3314d553dd4cbd817c1e6660d7155987cc77915d26041", func := "almoner/almonerlaw16.PrintWords", spec := "printWords", inPlace := ["internal/bytealg.IndexByteString", "internal/abi.NoEscape", "internal/bytealg.MakeNoZero"], unfollowed := true, recurses := true, apart := false }
def PrintWordsSaid : Prop := printWordsRow.holds Try.pinned (OpenSpec.ofChange printWordsSpec)

/-- ITS FALSE NEIGHBOUR: 'it returns false'. Refute it at one input. -/
def printWordsWrong : ChangeSpec := { name := "printWords", fn := fun _ => fun
  | [d] => { results := [.lit (.bool false)], args := [d] }
  | _ => none }
def PrintWordsWrongFalsely : Prop := printWordsRow.holds Try.pinned (OpenSpec.ofChange printWordsWrong)

/- THE SECOND FORM. 'bulk': how many values and letters a reading holds, each counted each time it is reached (what is shared counts as often as it is met; a slice's spare places count too). A statement '..UptoSaid' is the law's where the arguments, and the package variables that the reading takes, are together of bulk at most 1048576: NARROWER than '..Said'. Prove '..Said' where nothing that the law and all that it calls make is longer than what came in: it says more and counts as full. Else prove '..UptoSaid'. A law counts once. -/
mutual
def uptoBulk {H : Type} : DataW H → Nat
  | .lit (.string bytes) => bytes.length + 1
  | .lit _ => 1
  | .nil => 1
  | .ptr d => uptoBulk d + 1
  | .slice elems spare => uptoBulkAll elems + uptoBulkAll spare + 1
  | .agg parts => uptoBulkAll parts + 1
  | .iface _ d => uptoBulk d + 1
  | .map entries => uptoBulkEntries entries + 1
  | .held _ => 1
def uptoBulkAll {H : Type} : List (DataW H) → Nat
  | [] => 0
  | d :: r => uptoBulk d + uptoBulkAll r
def uptoBulkEntries {H : Type} : List (Lit × DataW H) → Nat
  | [] => 0
  | x :: r => uptoBulkEntry x + uptoBulkEntries r
def uptoBulkEntry {H : Type} : Lit × DataW H → Nat
  | (.string bytes, d) => bytes.length + uptoBulk d + 1
  | (_, d) => uptoBulk d + 1
 end
def uptoSmall : (H : Type) → List (DataW H) → Bool := fun _ ds => decide (uptoBulkAll ds ≤ 1048576)
def OpenSpec.upto (s : _root_.Go.ChangeSpec) : _root_.Go.OpenSpec := { _root_.Go.OpenSpec.ofChange s with cond := some uptoSmall }

/-- 'almonerlaw16.PrintLines', WHERE WHAT IT READS IS OF BULK AT MOST 1048576: true; the input reads as it did. -/
def printLinesUptoRow : OpenClaim := { program := "ytdhfhphbkfgamaa", sum := "28b72358b1b9fbae7fa3314d553dd4cbd817c1e6660d7155987cc77915d26041", func := "almoner/almonerlaw16.PrintLines", spec := "printLines", inPlace := ["internal/bytealg.IndexByteString", "internal/abi.NoEscape", "internal/bytealg.MakeNoZero"], unfollowed := true, recurses := true, apart := false, narrowed := true }
def PrintLinesUptoSaid : Prop := printLinesUptoRow.holds Try.pinned (OpenSpec.upto printLinesSpec)

/-- 'almonerlaw16.PrintWords', WHERE WHAT IT READS IS OF BULK AT MOST 1048576: true; the input reads as it did. -/
def printWordsUptoRow : OpenClaim := { program := "ytdhfhphbkfgamaa", sum := "28b72358b1b9fbae7fa3314d553dd4cbd817c1e6660d7155987cc77915d26041", func := "almoner/almonerlaw16.PrintWords", spec := "printWords", inPlace := ["internal/bytealg.IndexByteString", "internal/abi.NoEscape", "internal/bytealg.MakeNoZero"], unfollowed := true, recurses := true, apart := false, narrowed := true }
def PrintWordsUptoSaid : Prop := printWordsUptoRow.holds Try.pinned (OpenSpec.upto printWordsSpec)

end Rows
end Go.Proofs.Ytdhfhphbkfgamaa
