/-
  No cell of these rows narrows 'for every input' (looked for: loops, veiled, ifaces, maps, wideKeys, modest, calm, conditions, laid).
  DERIVED. THE GIVEN ROWS OF THIS SEAT. 6 by the template 'for every input the law returns true; each argument reads behind the call as it read before'; 0 by the template 'total and deterministic' (their statements: YtgpfjcogaheopaaTotals.lean).
  GIVEN WITH THE SEED: the statements are not yours to turn. If you find one false, say at which input.
  Laid BY PROGRAM, IN A SANDBOX (cutbox-rows.mjs): the forced cells as the released guide's own fill.sh prints them over the translation d8d788219e790cc8… (all of the seat's roots in one cut). By AI agents, Wed Nov 11 2026. No macro, syntax, notation, axiom, sorry.
-/
import Derived.Test.YtgpfjcogaheopaaChecked
import GoSem.Claim
import GoSem.ClaimJoined
import GoSem.ClaimMapViews
import Derived.JoinedTies
import Derived.KernelRfl
namespace Go.Proofs.Ytgpfjcogaheopaa
/- THE CELL 'sum', in the pinned program and in every row, IS THE sha256 OF THE DUMP (.gsa) THAT YtgpfjcogaheopaaProg.lean LOADS. Nothing in Lean hashes anything: it is a label: what it is worth is what the hold of that sum in a sandbox is worth. -/
noncomputable def Try.pinned : Pinned := { name := "ytgpfjcogaheopaa", sum := "d8d788219e790cc82acb935861a7392013da8265da11bd34205c5a5d64730dc5", checked := Try.checked }
namespace Rows
def none {H : Type} : Left H := { results := [], args := [] }

/-- 'almonerlaw15.ParseAll': WHATEVER THE INPUT: true; the input reads as it did. -/
def parseAllSpec : ChangeSpec := { name := "parseAll", fn := fun _ => fun
  | [d] => { results := [.lit (.bool true)], args := [d] }
  | _ => none }
def parseAllRow : OpenClaim := { program := "ytgpfjcogaheopaa", sum := "d8d788219e790cc82acb935861a7392013da8265da11bd34205c5a5d64730dc5", func := "almoner/almonerlaw15.ParseAll", spec := "parseAll", inPlace := ["internal/bytealg.IndexByteString"], unfollowed := true, recurses := true, apart := false }
def ParseAllSaid : Prop := parseAllRow.holds Try.pinned (OpenSpec.ofChange parseAllSpec)

/-- ITS FALSE NEIGHBOUR: 'it returns false'. Refute it at one input. -/
def parseAllWrong : ChangeSpec := { name := "parseAll", fn := fun _ => fun
  | [d] => { results := [.lit (.bool false)], args := [d] }
  | _ => none }
def ParseAllWrongFalsely : Prop := parseAllRow.holds Try.pinned (OpenSpec.ofChange parseAllWrong)

/-- 'almonerlaw15.ParseSound': WHATEVER THE INPUT: true; the input reads as it did. -/
def parseSoundSpec : ChangeSpec := { name := "parseSound", fn := fun _ => fun
  | [d] => { results := [.lit (.bool true)], args := [d] }
  | _ => none }
def parseSoundRow : OpenClaim := { program := "ytgpfjcogaheopaa", sum := "d8d788219e790cc82acb935861a7392013da8265da11bd34205c5a5d64730dc5", func := "almoner/almonerlaw15.ParseSound", spec := "parseSound", inPlace := ["internal/bytealg.IndexByteString"], unfollowed := true, recurses := true, apart := false }
def ParseSoundSaid : Prop := parseSoundRow.holds Try.pinned (OpenSpec.ofChange parseSoundSpec)

/-- ITS FALSE NEIGHBOUR: 'it returns false'. Refute it at one input. -/
def parseSoundWrong : ChangeSpec := { name := "parseSound", fn := fun _ => fun
  | [d] => { results := [.lit (.bool false)], args := [d] }
  | _ => none }
def ParseSoundWrongFalsely : Prop := parseSoundRow.holds Try.pinned (OpenSpec.ofChange parseSoundWrong)

/-- 'almonerlaw15.ParseWords': WHATEVER THE INPUT: true; the input reads as it did. -/
def parseWordsSpec : ChangeSpec := { name := "parseWords", fn := fun _ => fun
  | [d] => { results := [.lit (.bool true)], args := [d] }
  | _ => none }
def parseWordsRow : OpenClaim := { program := "ytgpfjcogaheopaa", sum := "d8d788219e790cc82acb935861a7392013da8265da11bd34205c5a5d64730dc5", func := "almoner/almonerlaw15.ParseWords", spec := "parseWords", inPlace := ["internal/bytealg.IndexByteString"], unfollowed := true, recurses := true, apart := false }
def ParseWordsSaid : Prop := parseWordsRow.holds Try.pinned (OpenSpec.ofChange parseWordsSpec)

/-- ITS FALSE NEIGHBOUR: 'it returns false'. Refute it at one input. -/
def parseWordsWrong : ChangeSpec := { name := "parseWords", fn := fun _ => fun
  | [d] => { results := [.lit (.bool false)], args := [d] }
  | _ => none }
def ParseWordsWrongFalsely : Prop := parseWordsRow.holds Try.pinned (OpenSpec.ofChange parseWordsWrong)

/-- 'almonerlaw15.ParseLines': WHATEVER THE INPUT: true; the input reads as it did. -/
def parseLinesSpec : ChangeSpec := { name := "parseLines", fn := fun _ => fun
  | [d1, d2] => { results := [.lit (.bool true)], args := [d1, d2] }
  | _ => none }
def parseLinesRow : OpenClaim := { program := "ytgpfjcogaheopaa", sum := "d8d788219e790cc82acb935861a7392013da8265da11bd34205c5a5d64730dc5", func := "almoner/almonerlaw15.ParseLines", spec := "parseLines", inPlace := ["internal/bytealg.IndexByteString"], unfollowed := true, recurses := true, apart := false }
def ParseLinesSaid : Prop := parseLinesRow.holds Try.pinned (OpenSpec.ofChange parseLinesSpec)

/-- ITS FALSE NEIGHBOUR: 'it returns false'. Refute it at one input. -/
def parseLinesWrong : ChangeSpec := { name := "parseLines", fn := fun _ => fun
  | [d1, d2] => { results := [.lit (.bool false)], args := [d1, d2] }
  | _ => none }
def ParseLinesWrongFalsely : Prop := parseLinesRow.holds Try.pinned (OpenSpec.ofChange parseLinesWrong)

/-- 'almonerlaw15.ParsePipes': WHATEVER THE INPUT: true; the input reads as it did. -/
def parsePipesSpec : ChangeSpec := { name := "parsePipes", fn := fun _ => fun
  | [d1, d2] => { results := [.lit (.bool true)], args := [d1, d2] }
  | _ => none }
def parsePipesRow : OpenClaim := { program := "ytgpfjcogaheopaa", sum := "d8d788219e790cc82acb935861a7392013da8265da11bd34205c5a5d64730dc5", func := "almoner/almonerlaw15.ParsePipes", spec := "parsePipes", inPlace := ["internal/bytealg.IndexByteString"], unfollowed := true, recurses := true, apart := false }
def ParsePipesSaid : Prop := parsePipesRow.holds Try.pinned (OpenSpec.ofChange parsePipesSpec)

/-- ITS FALSE NEIGHBOUR: 'it returns false'. Refute it at one input. -/
def parsePipesWrong : ChangeSpec := { name := "parsePipes", fn := fun _ => fun
  | [d1, d2] => { results := [.lit (.bool false)], args := [d1, d2] }
  | _ => none }
def ParsePipesWrongFalsely : Prop := parsePipesRow.holds Try.pinned (OpenSpec.ofChange parsePipesWrong)

/-- 'almonerlaw15.ParseDeep': WHATEVER THE INPUT: true; the input reads as it did. -/
def parseDeepSpec : ChangeSpec := { name := "parseDeep", fn := fun _ => fun
  | [d1, d2] => { results := [.lit (.bool true)], args := [d1, d2] }
  | _ => none }
def parseDeepRow : OpenClaim := { program := "ytgpfjcogaheopaa", sum := "d8d788219e790cc82acb935861a7392013da8265da11bd34205c5a5d64730dc5", func := "almoner/almonerlaw15.ParseDeep", spec := "parseDeep", inPlace := ["internal/bytealg.IndexByteString"], unfollowed := true, recurses := true, apart := false }
def ParseDeepSaid : Prop := parseDeepRow.holds Try.pinned (OpenSpec.ofChange parseDeepSpec)

/-- ITS FALSE NEIGHBOUR: 'it returns false'. Refute it at one input. -/
def parseDeepWrong : ChangeSpec := { name := "parseDeep", fn := fun _ => fun
  | [d1, d2] => { results := [.lit (.bool false)], args := [d1, d2] }
  | _ => none }
def ParseDeepWrongFalsely : Prop := parseDeepRow.holds Try.pinned (OpenSpec.ofChange parseDeepWrong)

/- THE SECOND FORM. 'bulk': how many values and letters a reading holds, each counted each time it is reached (what is shared counts as often as it is met; a slice's spare places count too). A statement '..UptoSaid' is the law's where the arguments, and the package variables that the reading takes, are together of bulk at most 1048576: NARROWER than '..Said'. Prove '..Said' where nothing that the law and all that it calls make is longer than what came in: it says more and counts as full. Else prove '..UptoSaid'. A law counts once. -/
mutual
def uptoBulk {H : Type} : DataW H → Nat
  | .lit (.string bytes) => bytes.length + 1
  | .lit _ => 1
  | .nil => 1
  | .ptr d => uptoBulk d + 1
  | .slice elems spare => uptoBulkAll elems + uptoBulkAll spare + 1
  | .agg parts => uptoBulkAll parts + 1
  | .iface _ d => uptoBulk d + 1
  | .map entries => uptoBulkEntries entries + 1
  | .held _ => 1
def uptoBulkAll {H : Type} : List (DataW H) → Nat
  | [] => 0
  | d :: r => uptoBulk d + uptoBulkAll r
def uptoBulkEntries {H : Type} : List (Lit × DataW H) → Nat
  | [] => 0
  | x :: r => uptoBulkEntry x + uptoBulkEntries r
def uptoBulkEntry {H : Type} : Lit × DataW H → Nat
  | (.string bytes, d) => bytes.length + uptoBulk d + 1
  | (_, d) => uptoBulk d + 1
 end
def uptoSmall : (H : Type) → List (DataW H) → Bool := fun _ ds => decide (uptoBulkAll ds ≤ 1048576)
def OpenSpec.upto (s : _root_.Go.ChangeSpec) : _root_.Go.OpenSpec := { _root_.Go.OpenSpec.ofChange s with cond := some uptoSmall }

/-- 'almonerlaw15.ParseAll', WHERE WHAT IT READS IS OF BULK AT MOST 1048576: true; the input reads as it did. -/
def parseAllUptoRow : OpenClaim := { program := "ytgpfjcogaheopaa", sum := "d8d788219e790cc82acb935861a7392013da8265da11bd34205c5a5d64730dc5", func := "almoner/almonerlaw15.ParseAll", spec := "parseAll", inPlace := ["internal/bytealg.IndexByteString"], unfollowed := true, recurses := true, apart := false, narrowed := true }
def ParseAllUptoSaid : Prop := parseAllUptoRow.holds Try.pinned (OpenSpec.upto parseAllSpec)

/-- 'almonerlaw15.ParseSound', WHERE WHAT IT READS IS OF BULK AT MOST 1048576: true; the input reads as it did. -/
def parseSoundUptoRow : OpenClaim := { program := "ytgpfjcogaheopaa", sum := "d8d788219e790cc82acb935861a7392013da8265da11bd34205c5a5d64730dc5", func := "almoner/almonerlaw15.ParseSound", spec := "parseSound", inPlace := ["internal/bytealg.IndexByteString"], unfollowed := true, recurses := true, apart := false, narrowed := true }
def ParseSoundUptoSaid : Prop := parseSoundUptoRow.holds Try.pinned (OpenSpec.upto parseSoundSpec)

/-- 'almonerlaw15.ParseWords', WHERE WHAT IT READS IS OF BULK AT MOST 1048576: true; the input reads as it did. -/
def parseWordsUptoRow : OpenClaim := { program := "ytgpfjcogaheopaa", sum := "d8d788219e790cc82acb935861a7392013da8265da11bd34205c5a5d64730dc5", func := "almoner/almonerlaw15.ParseWords", spec := "parseWords", inPlace := ["internal/bytealg.IndexByteString"], unfollowed := true, recurses := true, apart := false, narrowed := true }
def ParseWordsUptoSaid : Prop := parseWordsUptoRow.holds Try.pinned (OpenSpec.upto parseWordsSpec)

/-- 'almonerlaw15.ParseLines', WHERE WHAT IT READS IS OF BULK AT MOST 1048576: true; the input reads as it did. -/
def parseLinesUptoRow : OpenClaim := { program := "ytgpfjcogaheopaa", sum := "d8d788219e790cc82acb935861a7392013da8265da11bd34205c5a5d64730dc5", func := "almoner/almonerlaw15.ParseLines", spec := "parseLines", inPlace := ["internal/bytealg.IndexByteString"], unfollowed := true, recurses := true, apart := false, narrowed := true }
def ParseLinesUptoSaid : Prop := parseLinesUptoRow.holds Try.pinned (OpenSpec.upto parseLinesSpec)

/-- 'almonerlaw15.ParsePipes', WHERE WHAT IT READS IS OF BULK AT MOST 1048576: true; the input reads as it did. -/
def parsePipesUptoRow : OpenClaim := { program := "ytgpfjcogaheopaa", sum := "d8d788219e790cc82acb935861a7392013da8265da11bd34205c5a5d64730dc5", func := "almoner/almonerlaw15.ParsePipes", spec := "parsePipes", inPlace := ["internal/bytealg.IndexByteString"], unfollowed := true, recurses := true, apart := false, narrowed := true }
def ParsePipesUptoSaid : Prop := parsePipesUptoRow.holds Try.pinned (OpenSpec.upto parsePipesSpec)

/-- 'almonerlaw15.ParseDeep', WHERE WHAT IT READS IS OF BULK AT MOST 1048576: true; the input reads as it did. -/
def parseDeepUptoRow : OpenClaim := { program := "ytgpfjcogaheopaa", sum := "d8d788219e790cc82acb935861a7392013da8265da11bd34205c5a5d64730dc5", func := "almoner/almonerlaw15.ParseDeep", spec := "parseDeep", inPlace := ["internal/bytealg.IndexByteString"], unfollowed := true, recurses := true, apart := false, narrowed := true }
def ParseDeepUptoSaid : Prop := parseDeepUptoRow.holds Try.pinned (OpenSpec.upto parseDeepSpec)

end Rows
end Go.Proofs.Ytgpfjcogaheopaa
