/-
  No cell of these rows narrows 'for every input' (looked for: loops, veiled, ifaces, maps, wideKeys, modest, calm, conditions, laid).
  DERIVED. THE GIVEN ROWS OF THIS SEAT. 6 by the template 'for every input the law returns true; each argument reads behind the call as it read before'; 0 by the template 'total and deterministic' (their statements: YtphjafidencdeaaTotals.lean).
  GIVEN WITH THE SEED: the statements are not yours to turn. If you find one false, say at which input.
  Laid BY PROGRAM, IN A SANDBOX (cutbox-rows.mjs): the forced cells as the released guide's own fill.sh prints them over the translation ea348472f887d00a… (all of the seat's roots in one cut). By AI agents, Wed Nov 11 2026. No macro, syntax, notation, axiom, sorry.
-/
import Derived.Test.YtphjafidencdeaaChecked
import GoSem.Claim
import GoSem.ClaimJoined
import GoSem.ClaimMapViews
import Derived.JoinedTies
import Derived.KernelRfl
namespace Go.Proofs.Ytphjafidencdeaa
/- THE CELL 'sum', in the pinned program and in every row, IS THE sha256 OF THE DUMP (.gsa) THAT YtphjafidencdeaaProg.lean LOADS. Nothing in Lean hashes anything: it is a label: what it is worth is what the hold of that sum in a sandbox is worth. -/
noncomputable def Try.pinned : Pinned := { name := "ytphjafidencdeaa", sum := "ea348472f887d00a79b18514755ad460df18ac8dc7ed45fb808b7a83420c2396", checked := Try.checked }
namespace Rows
def none {H : Type} : Left H := { results := [], args := [] }

/-- 'almonerlaw12.GlobMatches': WHATEVER THE INPUT: true; the input reads as it did. -/
def globMatchesSpec : ChangeSpec := { name := "globMatches", fn := fun _ => fun
  | [d1, d2, d3] => { results := [.lit (.bool true)], args := [d1, d2, d3] }
  | _ => none }
def globMatchesRow : OpenClaim := { program := "ytphjafidencdeaa", sum := "ea348472f887d00a79b18514755ad460df18ac8dc7ed45fb808b7a83420c2396", func := "almoner/almonerlaw12.GlobMatches", spec := "globMatches", inPlace := ["internal/bytealg.IndexByteString", "internal/abi.NoEscape"], unfollowed := true, recurses := true, apart := false }
def GlobMatchesSaid : Prop := globMatchesRow.holds Try.pinned (OpenSpec.ofChange globMatchesSpec)

/-- ITS FALSE NEIGHBOUR: 'it returns false'. Refute it at one input. -/
def globMatchesWrong : ChangeSpec := { name := "globMatches", fn := fun _ => fun
  | [d1, d2, d3] => { results := [.lit (.bool false)], args := [d1, d2, d3] }
  | _ => none }
def GlobMatchesWrongFalsely : Prop := globMatchesRow.holds Try.pinned (OpenSpec.ofChange globMatchesWrong)

/-- 'almonerlaw12.GlobSets': WHATEVER THE INPUT: true; the input reads as it did. -/
def globSetsSpec : ChangeSpec := { name := "globSets", fn := fun _ => fun
  | [d1, d2] => { results := [.lit (.bool true)], args := [d1, d2] }
  | _ => none }
def globSetsRow : OpenClaim := { program := "ytphjafidencdeaa", sum := "ea348472f887d00a79b18514755ad460df18ac8dc7ed45fb808b7a83420c2396", func := "almoner/almonerlaw12.GlobSets", spec := "globSets", inPlace := ["internal/bytealg.IndexByteString", "internal/abi.NoEscape"], unfollowed := true, recurses := true, apart := false }
def GlobSetsSaid : Prop := globSetsRow.holds Try.pinned (OpenSpec.ofChange globSetsSpec)

/-- ITS FALSE NEIGHBOUR: 'it returns false'. Refute it at one input. -/
def globSetsWrong : ChangeSpec := { name := "globSets", fn := fun _ => fun
  | [d1, d2] => { results := [.lit (.bool false)], args := [d1, d2] }
  | _ => none }
def GlobSetsWrongFalsely : Prop := globSetsRow.holds Try.pinned (OpenSpec.ofChange globSetsWrong)

/-- 'almonerlaw12.GlobMarks': WHATEVER THE INPUT: true; the input reads as it did. -/
def globMarksSpec : ChangeSpec := { name := "globMarks", fn := fun _ => fun
  | [d1, d2] => { results := [.lit (.bool true)], args := [d1, d2] }
  | _ => none }
def globMarksRow : OpenClaim := { program := "ytphjafidencdeaa", sum := "ea348472f887d00a79b18514755ad460df18ac8dc7ed45fb808b7a83420c2396", func := "almoner/almonerlaw12.GlobMarks", spec := "globMarks", inPlace := ["internal/bytealg.IndexByteString", "internal/abi.NoEscape"], unfollowed := true, recurses := true, apart := false }
def GlobMarksSaid : Prop := globMarksRow.holds Try.pinned (OpenSpec.ofChange globMarksSpec)

/-- ITS FALSE NEIGHBOUR: 'it returns false'. Refute it at one input. -/
def globMarksWrong : ChangeSpec := { name := "globMarks", fn := fun _ => fun
  | [d1, d2] => { results := [.lit (.bool false)], args := [d1, d2] }
  | _ => none }
def GlobMarksWrongFalsely : Prop := globMarksRow.holds Try.pinned (OpenSpec.ofChange globMarksWrong)

/-- 'almonerlaw12.GlobTells': WHATEVER THE INPUT: true; the input reads as it did. -/
def globTellsSpec : ChangeSpec := { name := "globTells", fn := fun _ => fun
  | [d] => { results := [.lit (.bool true)], args := [d] }
  | _ => none }
def globTellsRow : OpenClaim := { program := "ytphjafidencdeaa", sum := "ea348472f887d00a79b18514755ad460df18ac8dc7ed45fb808b7a83420c2396", func := "almoner/almonerlaw12.GlobTells", spec := "globTells", inPlace := ["internal/bytealg.IndexByteString", "internal/abi.NoEscape"], unfollowed := true, recurses := true, apart := false }
def GlobTellsSaid : Prop := globTellsRow.holds Try.pinned (OpenSpec.ofChange globTellsSpec)

/-- ITS FALSE NEIGHBOUR: 'it returns false'. Refute it at one input. -/
def globTellsWrong : ChangeSpec := { name := "globTells", fn := fun _ => fun
  | [d] => { results := [.lit (.bool false)], args := [d] }
  | _ => none }
def GlobTellsWrongFalsely : Prop := globTellsRow.holds Try.pinned (OpenSpec.ofChange globTellsWrong)

/-- 'almonerlaw12.GlobQuotes': WHATEVER THE INPUT: true; the input reads as it did. -/
def globQuotesSpec : ChangeSpec := { name := "globQuotes", fn := fun _ => fun
  | [d1, d2] => { results := [.lit (.bool true)], args := [d1, d2] }
  | _ => none }
def globQuotesRow : OpenClaim := { program := "ytphjafidencdeaa", sum := "ea348472f887d00a79b18514755ad460df18ac8dc7ed45fb808b7a83420c2396", func := "almoner/almonerlaw12.GlobQuotes", spec := "globQuotes", inPlace := ["internal/bytealg.IndexByteString", "internal/abi.NoEscape"], unfollowed := true, recurses := true, apart := false }
def GlobQuotesSaid : Prop := globQuotesRow.holds Try.pinned (OpenSpec.ofChange globQuotesSpec)

/-- ITS FALSE NEIGHBOUR: 'it returns false'. Refute it at one input. -/
def globQuotesWrong : ChangeSpec := { name := "globQuotes", fn := fun _ => fun
  | [d1, d2] => { results := [.lit (.bool false)], args := [d1, d2] }
  | _ => none }
def GlobQuotesWrongFalsely : Prop := globQuotesRow.holds Try.pinned (OpenSpec.ofChange globQuotesWrong)

/-- 'almonerlaw12.GlobStars': WHATEVER THE INPUT: true; the input reads as it did. -/
def globStarsSpec : ChangeSpec := { name := "globStars", fn := fun _ => fun
  | [d1, d2, d3] => { results := [.lit (.bool true)], args := [d1, d2, d3] }
  | _ => none }
def globStarsRow : OpenClaim := { program := "ytphjafidencdeaa", sum := "ea348472f887d00a79b18514755ad460df18ac8dc7ed45fb808b7a83420c2396", func := "almoner/almonerlaw12.GlobStars", spec := "globStars", inPlace := ["internal/bytealg.IndexByteString", "internal/abi.NoEscape"], unfollowed := true, recurses := true, apart := false }
def GlobStarsSaid : Prop := globStarsRow.holds Try.pinned (OpenSpec.ofChange globStarsSpec)

/-- ITS FALSE NEIGHBOUR: 'it returns false'. Refute it at one input. -/
def globStarsWrong : ChangeSpec := { name := "globStars", fn := fun _ => fun
  | [d1, d2, d3] => { results := [.lit (.bool false)], args := [d1, d2, d3] }
  | _ => none }
def GlobStarsWrongFalsely : Prop := globStarsRow.holds Try.pinned (OpenSpec.ofChange globStarsWrong)

/- THE SECOND FORM. 'bulk': how many values and letters a reading holds, each counted each time it is reached (what is shared counts as often as it is met; a slice's spare places count too). A statement '..UptoSaid' is the law's where the arguments, and the package variables that the reading takes, are together of bulk at most 1048576: NARROWER than '..Said'. Prove '..Said' where nothing that the law and all that it calls make is longer than what came in: it says more and counts as full. Else prove '..UptoSaid'. A law counts once. -/
mutual
def uptoBulk {H : Type} : DataW H → Nat
  | .lit (.string bytes) => bytes.length + 1
  | .lit _ => 1
  | .nil => 1
  | .ptr d => uptoBulk d + 1
  | .slice elems spare => uptoBulkAll elems + uptoBulkAll spare + 1
  | .agg parts => uptoBulkAll parts + 1
  | .iface _ d => uptoBulk d + 1
  | .map entries => uptoBulkEntries entries + 1
  | .held _ => 1
def uptoBulkAll {H : Type} : List (DataW H) → Nat
  | [] => 0
  | d :: r => uptoBulk d + uptoBulkAll r
def uptoBulkEntries {H : Type} : List (Lit × DataW H) → Nat
  | [] => 0
  | x :: r => uptoBulkEntry x + uptoBulkEntries r
def uptoBulkEntry {H : Type} : Lit × DataW H → Nat
  | (.string bytes, d) => bytes.length + uptoBulk d + 1
  | (_, d) => uptoBulk d + 1
 end
def uptoSmall : (H : Type) → List (DataW H) → Bool := fun _ ds => decide (uptoBulkAll ds ≤ 1048576)
def OpenSpec.upto (s : _root_.Go.ChangeSpec) : _root_.Go.OpenSpec := { _root_.Go.OpenSpec.ofChange s with cond := some uptoSmall }

/-- 'almonerlaw12.GlobMatches', WHERE WHAT IT READS IS OF BULK AT MOST 1048576: true; the input reads as it did. -/
def globMatchesUptoRow : OpenClaim := { program := "ytphjafidencdeaa", sum := "ea348472f887d00a79b18514755ad460df18ac8dc7ed45fb808b7a83420c2396", func := "almoner/almonerlaw12.GlobMatches", spec := "globMatches", inPlace := ["internal/bytealg.IndexByteString", "internal/abi.NoEscape"], unfollowed := true, recurses := true, apart := false, narrowed := true }
def GlobMatchesUptoSaid : Prop := globMatchesUptoRow.holds Try.pinned (OpenSpec.upto globMatchesSpec)

/-- 'almonerlaw12.GlobSets', WHERE WHAT IT READS IS OF BULK AT MOST 1048576: true; the input reads as it did. -/
def globSetsUptoRow : OpenClaim := { program := "ytphjafidencdeaa", sum := "ea348472f887d00a79b18514755ad460df18ac8dc7ed45fb808b7a83420c2396", func := "almoner/almonerlaw12.GlobSets", spec := "globSets", inPlace := ["internal/bytealg.IndexByteString", "internal/abi.NoEscape"], unfollowed := true, recurses := true, apart := false, narrowed := true }
def GlobSetsUptoSaid : Prop := globSetsUptoRow.holds Try.pinned (OpenSpec.upto globSetsSpec)

/-- 'almonerlaw12.GlobMarks', WHERE WHAT IT READS IS OF BULK AT MOST 1048576: true; the input reads as it did. -/
def globMarksUptoRow : OpenClaim := { program := "ytphjafidencdeaa", sum := "ea348472f887d00a79b18514755ad460df18ac8dc7ed45fb808b7a83420c2396", func := "almoner/almonerlaw12.GlobMarks", spec := "globMarks", inPlace := ["internal/bytealg.IndexByteString", "internal/abi.NoEscape"], unfollowed := true, recurses := true, apart := false, narrowed := true }
def GlobMarksUptoSaid : Prop := globMarksUptoRow.holds Try.pinned (OpenSpec.upto globMarksSpec)

/-- 'almonerlaw12.GlobTells', WHERE WHAT IT READS IS OF BULK AT MOST 1048576: true; the input reads as it did. -/
def globTellsUptoRow : OpenClaim := { program := "ytphjafidencdeaa", sum := "ea348472f887d00a79b18514755ad460df18ac8dc7ed45fb808b7a83420c2396", func := "almoner/almonerlaw12.GlobTells", spec := "globTells", inPlace := ["internal/bytealg.IndexByteString", "internal/abi.NoEscape"], unfollowed := true, recurses := true, apart := false, narrowed := true }
def GlobTellsUptoSaid : Prop := globTellsUptoRow.holds Try.pinned (OpenSpec.upto globTellsSpec)

/-- 'almonerlaw12.GlobQuotes', WHERE WHAT IT READS IS OF BULK AT MOST 1048576: true; the input reads as it did. -/
def globQuotesUptoRow : OpenClaim := { program := "ytphjafidencdeaa", sum := "ea348472f887d00a79b18514755ad460df18ac8dc7ed45fb808b7a83420c2396", func := "almoner/almonerlaw12.GlobQuotes", spec := "globQuotes", inPlace := ["internal/bytealg.IndexByteString", "internal/abi.NoEscape"], unfollowed := true, recurses := true, apart := false, narrowed := true }
def GlobQuotesUptoSaid : Prop := globQuotesUptoRow.holds Try.pinned (OpenSpec.upto globQuotesSpec)

/-- 'almonerlaw12.GlobStars', WHERE WHAT IT READS IS OF BULK AT MOST 1048576: true; the input reads as it did. -/
def globStarsUptoRow : OpenClaim := { program := "ytphjafidencdeaa", sum := "ea348472f887d00a79b18514755ad460df18ac8dc7ed45fb808b7a83420c2396", func := "almoner/almonerlaw12.GlobStars", spec := "globStars", inPlace := ["internal/bytealg.IndexByteString", "internal/abi.NoEscape"], unfollowed := true, recurses := true, apart := false, narrowed := true }
def GlobStarsUptoSaid : Prop := globStarsUptoRow.holds Try.pinned (OpenSpec.upto globStarsSpec)

end Rows
end Go.Proofs.Ytphjafidencdeaa
