/-
  No cell of these rows narrows 'for every input' (looked for: loops, veiled, ifaces, maps, wideKeys, modest, calm, conditions, laid).
  DERIVED. THE GIVEN ROWS OF THIS SEAT. 4 by the template 'for every input the law returns true; each argument reads behind the call as it read before'; 0 by the template 'total and deterministic' (their statements: YtnamfafpdlieeaaTotals.lean).
  GIVEN WITH THE SEED: the statements are not yours to turn. If you find one false, say at which input.
  Laid BY PROGRAM, IN A SANDBOX (cutbox-rows.mjs): the forced cells as the released guide's own fill.sh prints them over the translation f3c698adefa5d388… (all of the seat's roots in one cut). By AI agents, Wed Nov 11 2026. No macro, syntax, notation, axiom, sorry.
-/
import Derived.Test.YtnamfafpdlieeaaChecked
import GoSem.Claim
import GoSem.ClaimJoined
import GoSem.ClaimMapViews
import Derived.JoinedTies
import Derived.KernelRfl
namespace Go.Proofs.Ytnamfafpdlieeaa
/- THE CELL 'sum', in the pinned program and in every row, IS THE sha256 OF THE DUMP (.gsa) THAT YtnamfafpdlieeaaProg.lean LOADS. Nothing in Lean hashes anything: it is a label: what it is worth is what the hold of that sum in a sandbox is worth. -/
noncomputable def Try.pinned : Pinned := { name := "ytnamfafpdlieeaa", sum := "f3c698adefa5d388456dac5ca51a0ea4b45a1c006881f140a91d01d9ed8d2c06", checked := Try.checked }
namespace Rows
def none {H : Type} : Left H := { results := [], args := [] }

/-- 'almonerlaw14.LexAll': WHATEVER THE INPUT: true; the input reads as it did. -/
def lexAllSpec : ChangeSpec := { name := "lexAll", fn := fun _ => fun
  | [d] => { results := [.lit (.bool true)], args := [d] }
  | _ => none }
def lexAllRow : OpenClaim := { program := "ytnamfafpdlieeaa", sum := "f3c698adefa5d388456dac5ca51a0ea4b45a1c006881f140a91d01d9ed8d2c06", func := "almoner/almonerlaw14.LexAll", spec := "lexAll", inPlace := ["internal/bytealg.IndexByteString"], unfollowed := true, recurses := true, apart := false }
def LexAllSaid : Prop := lexAllRow.holds Try.pinned (OpenSpec.ofChange lexAllSpec)

/-- ITS FALSE NEIGHBOUR: 'it returns false'. Refute it at one input. -/
def lexAllWrong : ChangeSpec := { name := "lexAll", fn := fun _ => fun
  | [d] => { results := [.lit (.bool false)], args := [d] }
  | _ => none }
def LexAllWrongFalsely : Prop := lexAllRow.holds Try.pinned (OpenSpec.ofChange lexAllWrong)

/-- 'almonerlaw14.LexParts': WHATEVER THE INPUT: true; the input reads as it did. -/
def lexPartsSpec : ChangeSpec := { name := "lexParts", fn := fun _ => fun
  | [d1, d2] => { results := [.lit (.bool true)], args := [d1, d2] }
  | _ => none }
def lexPartsRow : OpenClaim := { program := "ytnamfafpdlieeaa", sum := "f3c698adefa5d388456dac5ca51a0ea4b45a1c006881f140a91d01d9ed8d2c06", func := "almoner/almonerlaw14.LexParts", spec := "lexParts", inPlace := ["internal/bytealg.IndexByteString"], unfollowed := true, recurses := true, apart := false }
def LexPartsSaid : Prop := lexPartsRow.holds Try.pinned (OpenSpec.ofChange lexPartsSpec)

/-- ITS FALSE NEIGHBOUR: 'it returns false'. Refute it at one input. -/
def lexPartsWrong : ChangeSpec := { name := "lexParts", fn := fun _ => fun
  | [d1, d2] => { results := [.lit (.bool false)], args := [d1, d2] }
  | _ => none }
def LexPartsWrongFalsely : Prop := lexPartsRow.holds Try.pinned (OpenSpec.ofChange lexPartsWrong)

/-- 'almonerlaw14.LexStands': WHATEVER THE INPUT: true; the input reads as it did. -/
def lexStandsSpec : ChangeSpec := { name := "lexStands", fn := fun _ => fun
  | [d] => { results := [.lit (.bool true)], args := [d] }
  | _ => none }
def lexStandsRow : OpenClaim := { program := "ytnamfafpdlieeaa", sum := "f3c698adefa5d388456dac5ca51a0ea4b45a1c006881f140a91d01d9ed8d2c06", func := "almoner/almonerlaw14.LexStands", spec := "lexStands", inPlace := ["internal/bytealg.IndexByteString"], unfollowed := true, recurses := true, apart := false }
def LexStandsSaid : Prop := lexStandsRow.holds Try.pinned (OpenSpec.ofChange lexStandsSpec)

/-- ITS FALSE NEIGHBOUR: 'it returns false'. Refute it at one input. -/
def lexStandsWrong : ChangeSpec := { name := "lexStands", fn := fun _ => fun
  | [d] => { results := [.lit (.bool false)], args := [d] }
  | _ => none }
def LexStandsWrongFalsely : Prop := lexStandsRow.holds Try.pinned (OpenSpec.ofChange lexStandsWrong)

/-- 'almonerlaw14.LexSigns': WHATEVER THE INPUT: true; the input reads as it did. -/
def lexSignsSpec : ChangeSpec := { name := "lexSigns", fn := fun _ => fun
  | [d1, d2] => { results := [.lit (.bool true)], args := [d1, d2] }
  | _ => none }
def lexSignsRow : OpenClaim := { program := "ytnamfafpdlieeaa", sum := "f3c698adefa5d388456dac5ca51a0ea4b45a1c006881f140a91d01d9ed8d2c06", func := "almoner/almonerlaw14.LexSigns", spec := "lexSigns", inPlace := ["internal/bytealg.IndexByteString"], unfollowed := true, recurses := true, apart := false }
def LexSignsSaid : Prop := lexSignsRow.holds Try.pinned (OpenSpec.ofChange lexSignsSpec)

/-- ITS FALSE NEIGHBOUR: 'it returns false'. Refute it at one input. -/
def lexSignsWrong : ChangeSpec := { name := "lexSigns", fn := fun _ => fun
  | [d1, d2] => { results := [.lit (.bool false)], args := [d1, d2] }
  | _ => none }
def LexSignsWrongFalsely : Prop := lexSignsRow.holds Try.pinned (OpenSpec.ofChange lexSignsWrong)

/- THE SECOND FORM. 'bulk': how many values and letters a reading holds, each counted each time it is reached (what is shared counts as often as it is met; a slice's spare places count too). A statement '..UptoSaid' is the law's where the arguments, and the package variables that the reading takes, are together of bulk at most 1048576: NARROWER than '..Said'. Prove '..Said' where nothing that the law and all that it calls make is longer than what came in: it says more and counts as full. Else prove '..UptoSaid'. A law counts once. -/
mutual
def uptoBulk {H : Type} : DataW H → Nat
  | .lit (.string bytes) => bytes.length + 1
  | .lit _ => 1
  | .nil => 1
  | .ptr d => uptoBulk d + 1
  | .slice elems spare => uptoBulkAll elems + uptoBulkAll spare + 1
  | .agg parts => uptoBulkAll parts + 1
  | .iface _ d => uptoBulk d + 1
  | .map entries => uptoBulkEntries entries + 1
  | .held _ => 1
def uptoBulkAll {H : Type} : List (DataW H) → Nat
  | [] => 0
  | d :: r => uptoBulk d + uptoBulkAll r
def uptoBulkEntries {H : Type} : List (Lit × DataW H) → Nat
  | [] => 0
  | x :: r => uptoBulkEntry x + uptoBulkEntries r
def uptoBulkEntry {H : Type} : Lit × DataW H → Nat
  | (.string bytes, d) => bytes.length + uptoBulk d + 1
  | (_, d) => uptoBulk d + 1
 end
def uptoSmall : (H : Type) → List (DataW H) → Bool := fun _ ds => decide (uptoBulkAll ds ≤ 1048576)
def OpenSpec.upto (s : _root_.Go.ChangeSpec) : _root_.Go.OpenSpec := { _root_.Go.OpenSpec.ofChange s with cond := some uptoSmall }

/-- 'almonerlaw14.LexAll', WHERE WHAT IT READS IS OF BULK AT MOST 1048576: true; the input reads as it did. -/
def lexAllUptoRow : OpenClaim := { program := "ytnamfafpdlieeaa", sum := "f3c698adefa5d388456dac5ca51a0ea4b45a1c006881f140a91d01d9ed8d2c06", func := "almoner/almonerlaw14.LexAll", spec := "lexAll", inPlace := ["internal/bytealg.IndexByteString"], unfollowed := true, recurses := true, apart := false, narrowed := true }
def LexAllUptoSaid : Prop := lexAllUptoRow.holds Try.pinned (OpenSpec.upto lexAllSpec)

/-- 'almonerlaw14.LexParts', WHERE WHAT IT READS IS OF BULK AT MOST 1048576: true; the input reads as it did. -/
def lexPartsUptoRow : OpenClaim := { program := "ytnamfafpdlieeaa", sum := "f3c698adefa5d388456dac5ca51a0ea4b45a1c006881f140a91d01d9ed8d2c06", func := "almoner/almonerlaw14.LexParts", spec := "lexParts", inPlace := ["internal/bytealg.IndexByteString"], unfollowed := true, recurses := true, apart := false, narrowed := true }
def LexPartsUptoSaid : Prop := lexPartsUptoRow.holds Try.pinned (OpenSpec.upto lexPartsSpec)

/-- 'almonerlaw14.LexStands', WHERE WHAT IT READS IS OF BULK AT MOST 1048576: true; the input reads as it did. -/
def lexStandsUptoRow : OpenClaim := { program := "ytnamfafpdlieeaa", sum := "f3c698adefa5d388456dac5ca51a0ea4b45a1c006881f140a91d01d9ed8d2c06", func := "almoner/almonerlaw14.LexStands", spec := "lexStands", inPlace := ["internal/bytealg.IndexByteString"], unfollowed := true, recurses := true, apart := false, narrowed := true }
def LexStandsUptoSaid : Prop := lexStandsUptoRow.holds Try.pinned (OpenSpec.upto lexStandsSpec)

/-- 'almonerlaw14.LexSigns', WHERE WHAT IT READS IS OF BULK AT MOST 1048576: true; the input reads as it did. -/
def lexSignsUptoRow : OpenClaim := { program := "ytnamfafpdlieeaa", sum := "f3c698adefa5d388456dac5ca51a0ea4b45a1c006881f140a91d01d9ed8d2c06", func := "almoner/almonerlaw14.LexSigns", spec := "lexSigns", inPlace := ["internal/bytealg.IndexByteString"], unfollowed := true, recurses := true, apart := false, narrowed := true }
def LexSignsUptoSaid : Prop := lexSignsUptoRow.holds Try.pinned (OpenSpec.upto lexSignsSpec)

end Rows
end Go.Proofs.Ytnamfafpdlieeaa
