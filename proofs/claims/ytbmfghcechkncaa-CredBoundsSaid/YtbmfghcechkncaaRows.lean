/-
  No cell of these rows narrows 'for every input' (looked for: loops, veiled, ifaces, maps, wideKeys, modest, calm, conditions, laid).
  DERIVED. THE GIVEN ROWS OF THIS SEAT. 6 by the template 'for every input the law returns true; each argument reads behind the call as it read before'; 0 by the template 'total and deterministic' (their statements: YtbmfghcechkncaaTotals.lean).
  GIVEN WITH THE SEED: the statements are not yours to turn. If you find one false, say at which input.
  Laid BY PROGRAM, IN A SANDBOX (cutbox-rows.mjs): the forced cells as the released guide's own fill.sh prints them over the translation 6722430d3d4be7ad… (all of the seat's roots in one cut). By AI agents, Wed Nov 11 2026. No macro, syntax, notation, axiom, sorry.
-/
import Derived.Test.YtbmfghcechkncaaChecked
import GoSem.Claim
import GoSem.ClaimJoined
import GoSem.ClaimMapViews
import Derived.JoinedTies
import Derived.KernelRfl
namespace Go.Proofs.Ytbmfghcechkncaa
/- THE CELL 'sum', in the pinned program and in every row, IS THE sha256 OF THE DUMP (.gsa) THAT YtbmfghcechkncaaProg.lean LOADS. Nothing in Lean hashes anything: it is a label: what it is worth is what the hold of that sum in a sandbox is worth. -/
noncomputable def Try.pinned : Pinned := { name := "ytbmfghcechkncaa", sum := "6722430d3d4be7ad713ce53796cd15d35b26914590753d8c0c74c6d3d96d3cc4", checked := Try.checked }
namespace Rows
def none {H : Type} : Left H := { results := [], args := [] }

/-- 'almonerlaw05.CredLends': WHATEVER THE INPUT: true; the input reads as it did. -/
def credLendsSpec : ChangeSpec := { name := "credLends", fn := fun _ => fun
  | [d1, d2] => { results := [.lit (.bool true)], args := [d1, d2] }
  | _ => none }
def credLendsRow : OpenClaim := { program := "ytbmfghcechkncaa", sum := "6722430d3d4be7ad713ce53796cd15d35b26914590753d8c0c74c6d3d96d3cc4", func := "almoner/almonerlaw05.CredLends", spec := "credLends", unfollowed := true, recurses := true, apart := false }
def CredLendsSaid : Prop := credLendsRow.holds Try.pinned (OpenSpec.ofChange credLendsSpec)

/-- ITS FALSE NEIGHBOUR: 'it returns false'. Refute it at one input. -/
def credLendsWrong : ChangeSpec := { name := "credLends", fn := fun _ => fun
  | [d1, d2] => { results := [.lit (.bool false)], args := [d1, d2] }
  | _ => none }
def CredLendsWrongFalsely : Prop := credLendsRow.holds Try.pinned (OpenSpec.ofChange credLendsWrong)

/-- 'almonerlaw05.CredTells': WHATEVER THE INPUT: true; the input reads as it did. -/
def credTellsSpec : ChangeSpec := { name := "credTells", fn := fun _ => fun
  | [d1, d2, d3, d4, d5] => { results := [.lit (.bool true)], args := [d1, d2, d3, d4, d5] }
  | _ => none }
def credTellsRow : OpenClaim := { program := "ytbmfghcechkncaa", sum := "6722430d3d4be7ad713ce53796cd15d35b26914590753d8c0c74c6d3d96d3cc4", func := "almoner/almonerlaw05.CredTells", spec := "credTells", unfollowed := true, recurses := true, apart := false }
def CredTellsSaid : Prop := credTellsRow.holds Try.pinned (OpenSpec.ofChange credTellsSpec)

/-- ITS FALSE NEIGHBOUR: 'it returns false'. Refute it at one input. -/
def credTellsWrong : ChangeSpec := { name := "credTells", fn := fun _ => fun
  | [d1, d2, d3, d4, d5] => { results := [.lit (.bool false)], args := [d1, d2, d3, d4, d5] }
  | _ => none }
def CredTellsWrongFalsely : Prop := credTellsRow.holds Try.pinned (OpenSpec.ofChange credTellsWrong)

/-- 'almonerlaw05.CredNever': WHATEVER THE INPUT: true; the input reads as it did. -/
def credNeverSpec : ChangeSpec := { name := "credNever", fn := fun _ => fun
  | [d1, d2, d3] => { results := [.lit (.bool true)], args := [d1, d2, d3] }
  | _ => none }
def credNeverRow : OpenClaim := { program := "ytbmfghcechkncaa", sum := "6722430d3d4be7ad713ce53796cd15d35b26914590753d8c0c74c6d3d96d3cc4", func := "almoner/almonerlaw05.CredNever", spec := "credNever", unfollowed := true, recurses := true, apart := false }
def CredNeverSaid : Prop := credNeverRow.holds Try.pinned (OpenSpec.ofChange credNeverSpec)

/-- ITS FALSE NEIGHBOUR: 'it returns false'. Refute it at one input. -/
def credNeverWrong : ChangeSpec := { name := "credNever", fn := fun _ => fun
  | [d1, d2, d3] => { results := [.lit (.bool false)], args := [d1, d2, d3] }
  | _ => none }
def CredNeverWrongFalsely : Prop := credNeverRow.holds Try.pinned (OpenSpec.ofChange credNeverWrong)

/-- 'almonerlaw05.CredDrops': WHATEVER THE INPUT: true; the input reads as it did. -/
def credDropsSpec : ChangeSpec := { name := "credDrops", fn := fun _ => fun
  | [d1, d2, d3] => { results := [.lit (.bool true)], args := [d1, d2, d3] }
  | _ => none }
def credDropsRow : OpenClaim := { program := "ytbmfghcechkncaa", sum := "6722430d3d4be7ad713ce53796cd15d35b26914590753d8c0c74c6d3d96d3cc4", func := "almoner/almonerlaw05.CredDrops", spec := "credDrops", unfollowed := true, recurses := true, apart := false }
def CredDropsSaid : Prop := credDropsRow.holds Try.pinned (OpenSpec.ofChange credDropsSpec)

/-- ITS FALSE NEIGHBOUR: 'it returns false'. Refute it at one input. -/
def credDropsWrong : ChangeSpec := { name := "credDrops", fn := fun _ => fun
  | [d1, d2, d3] => { results := [.lit (.bool false)], args := [d1, d2, d3] }
  | _ => none }
def CredDropsWrongFalsely : Prop := credDropsRow.holds Try.pinned (OpenSpec.ofChange credDropsWrong)

/-- 'almonerlaw05.CredGroups': WHATEVER THE INPUT: true; the input reads as it did. -/
def credGroupsSpec : ChangeSpec := { name := "credGroups", fn := fun _ => fun
  | [d1, d2, d3, d4] => { results := [.lit (.bool true)], args := [d1, d2, d3, d4] }
  | _ => none }
def credGroupsRow : OpenClaim := { program := "ytbmfghcechkncaa", sum := "6722430d3d4be7ad713ce53796cd15d35b26914590753d8c0c74c6d3d96d3cc4", func := "almoner/almonerlaw05.CredGroups", spec := "credGroups", unfollowed := true, recurses := true, apart := false }
def CredGroupsSaid : Prop := credGroupsRow.holds Try.pinned (OpenSpec.ofChange credGroupsSpec)

/-- ITS FALSE NEIGHBOUR: 'it returns false'. Refute it at one input. -/
def credGroupsWrong : ChangeSpec := { name := "credGroups", fn := fun _ => fun
  | [d1, d2, d3, d4] => { results := [.lit (.bool false)], args := [d1, d2, d3, d4] }
  | _ => none }
def CredGroupsWrongFalsely : Prop := credGroupsRow.holds Try.pinned (OpenSpec.ofChange credGroupsWrong)

/-- 'almonerlaw05.CredBounds': WHATEVER THE INPUT: true; the input reads as it did. -/
def credBoundsSpec : ChangeSpec := { name := "credBounds", fn := fun _ => fun
  | [d] => { results := [.lit (.bool true)], args := [d] }
  | _ => none }
def credBoundsRow : OpenClaim := { program := "ytbmfghcechkncaa", sum := "6722430d3d4be7ad713ce53796cd15d35b26914590753d8c0c74c6d3d96d3cc4", func := "almoner/almonerlaw05.CredBounds", spec := "credBounds", unfollowed := true, recurses := true, apart := false }
def CredBoundsSaid : Prop := credBoundsRow.holds Try.pinned (OpenSpec.ofChange credBoundsSpec)

/-- ITS FALSE NEIGHBOUR: 'it returns false'. Refute it at one input. -/
def credBoundsWrong : ChangeSpec := { name := "credBounds", fn := fun _ => fun
  | [d] => { results := [.lit (.bool false)], args := [d] }
  | _ => none }
def CredBoundsWrongFalsely : Prop := credBoundsRow.holds Try.pinned (OpenSpec.ofChange credBoundsWrong)

/- THE SECOND FORM. 'bulk': how many values and letters a reading holds, each counted each time it is reached (what is shared counts as often as it is met; a slice's spare places count too). A statement '..UptoSaid' is the law's where the arguments, and the package variables that the reading takes, are together of bulk at most 1048576: NARROWER than '..Said'. Prove '..Said' where nothing that the law and all that it calls make is longer than what came in: it says more and counts as full. Else prove '..UptoSaid'. A law counts once. -/
mutual
def uptoBulk {H : Type} : DataW H → Nat
  | .lit (.string bytes) => bytes.length + 1
  | .lit _ => 1
  | .nil => 1
  | .ptr d => uptoBulk d + 1
  | .slice elems spare => uptoBulkAll elems + uptoBulkAll spare + 1
  | .agg parts => uptoBulkAll parts + 1
  | .iface _ d => uptoBulk d + 1
  | .map entries => uptoBulkEntries entries + 1
  | .held _ => 1
def uptoBulkAll {H : Type} : List (DataW H) → Nat
  | [] => 0
  | d :: r => uptoBulk d + uptoBulkAll r
def uptoBulkEntries {H : Type} : List (Lit × DataW H) → Nat
  | [] => 0
  | x :: r => uptoBulkEntry x + uptoBulkEntries r
def uptoBulkEntry {H : Type} : Lit × DataW H → Nat
  | (.string bytes, d) => bytes.length + uptoBulk d + 1
  | (_, d) => uptoBulk d + 1
 end
def uptoSmall : (H : Type) → List (DataW H) → Bool := fun _ ds => decide (uptoBulkAll ds ≤ 1048576)
def OpenSpec.upto (s : _root_.Go.ChangeSpec) : _root_.Go.OpenSpec := { _root_.Go.OpenSpec.ofChange s with cond := some uptoSmall }

/-- 'almonerlaw05.CredLends', WHERE WHAT IT READS IS OF BULK AT MOST 1048576: true; the input reads as it did. -/
def credLendsUptoRow : OpenClaim := { program := "ytbmfghcechkncaa", sum := "6722430d3d4be7ad713ce53796cd15d35b26914590753d8c0c74c6d3d96d3cc4", func := "almoner/almonerlaw05.CredLends", spec := "credLends", unfollowed := true, recurses := true, apart := false, narrowed := true }
def CredLendsUptoSaid : Prop := credLendsUptoRow.holds Try.pinned (OpenSpec.upto credLendsSpec)

/-- 'almonerlaw05.CredTells', WHERE WHAT IT READS IS OF BULK AT MOST 1048576: true; the input reads as it did. -/
def credTellsUptoRow : OpenClaim := { program := "ytbmfghcechkncaa", sum := "6722430d3d4be7ad713ce53796cd15d35b26914590753d8c0c74c6d3d96d3cc4", func := "almoner/almonerlaw05.CredTells", spec := "credTells", unfollowed := true, recurses := true, apart := false, narrowed := true }
def CredTellsUptoSaid : Prop := credTellsUptoRow.holds Try.pinned (OpenSpec.upto credTellsSpec)

/-- 'almonerlaw05.CredNever', WHERE WHAT IT READS IS OF BULK AT MOST 1048576: true; the input reads as it did. -/
def credNeverUptoRow : OpenClaim := { program := "ytbmfghcechkncaa", sum := "6722430d3d4be7ad713ce53796cd15d35b26914590753d8c0c74c6d3d96d3cc4", func := "almoner/almonerlaw05.CredNever", spec := "credNever", unfollowed := true, recurses := true, apart := false, narrowed := true }
def CredNeverUptoSaid : Prop := credNeverUptoRow.holds Try.pinned (OpenSpec.upto credNeverSpec)

/-- 'almonerlaw05.CredDrops', WHERE WHAT IT READS IS OF BULK AT MOST 1048576: true; the input reads as it did. -/
def credDropsUptoRow : OpenClaim := { program := "ytbmfghcechkncaa", sum := "6722430d3d4be7ad713ce53796cd15d35b26914590753d8c0c74c6d3d96d3cc4", func := "almoner/almonerlaw05.CredDrops", spec := "credDrops", unfollowed := true, recurses := true, apart := false, narrowed := true }
def CredDropsUptoSaid : Prop := credDropsUptoRow.holds Try.pinned (OpenSpec.upto credDropsSpec)

/-- 'almonerlaw05.CredGroups', WHERE WHAT IT READS IS OF BULK AT MOST 1048576: true; the input reads as it did. -/
def credGroupsUptoRow : OpenClaim := { program := "ytbmfghcechkncaa", sum := "6722430d3d4be7ad713ce53796cd15d35b26914590753d8c0c74c6d3d96d3cc4", func := "almoner/almonerlaw05.CredGroups", spec := "credGroups", unfollowed := true, recurses := true, apart := false, narrowed := true }
def CredGroupsUptoSaid : Prop := credGroupsUptoRow.holds Try.pinned (OpenSpec.upto credGroupsSpec)

/-- 'almonerlaw05.CredBounds', WHERE WHAT IT READS IS OF BULK AT MOST 1048576: true; the input reads as it did. -/
def credBoundsUptoRow : OpenClaim := { program := "ytbmfghcechkncaa", sum := "6722430d3d4be7ad713ce53796cd15d35b26914590753d8c0c74c6d3d96d3cc4", func := "almoner/almonerlaw05.CredBounds", spec := "credBounds", unfollowed := true, recurses := true, apart := false, narrowed := true }
def CredBoundsUptoSaid : Prop := credBoundsUptoRow.holds Try.pinned (OpenSpec.upto credBoundsSpec)

end Rows
end Go.Proofs.Ytbmfghcechkncaa
