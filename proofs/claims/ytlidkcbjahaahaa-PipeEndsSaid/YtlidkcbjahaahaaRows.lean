/-
  No cell of these rows narrows 'for every input' (looked for: loops, veiled, ifaces, maps, wideKeys, modest, calm, conditions, laid).
  DERIVED. THE GIVEN ROWS OF THIS SEAT. 3 by the template 'for every input the law returns true; each argument reads behind the call as it read before'; 0 by the template 'total and deterministic' (their statements: YtlidkcbjahaahaaTotals.lean).
  GIVEN WITH THE SEED: the statements are not yours to turn. If you find one false, say at which input.
  Laid BY PROGRAM, IN A SANDBOX (cutbox-rows.mjs): the forced cells as the released guide's own fill.sh prints them over the translation 62492458757e2456… (all of the seat's roots in one cut). By AI agents, Wed Nov 11 2026. No macro, syntax, notation, axiom, sorry.
-/
import Derived.Test.YtlidkcbjahaahaaChecked
import GoSem.Claim
import GoSem.ClaimJoined
import GoSem.ClaimMapViews
import Derived.JoinedTies
import Derived.KernelRfl
namespace Go.Proofs.Ytlidkcbjahaahaa
/- THE CELL 'sum', in the pinned program and in every row, IS THE sha256 OF THE DUMP (.gsa) THAT YtlidkcbjahaahaaProg.lean LOADS. Nothing in Lean hashes anything: it is a label: what it is worth is what the hold of that sum in a sandbox is worth. -/
noncomputable def Try.pinned : Pinned := { name := "ytlidkcbjahaahaa", sum := "62492458757e24561ef347a05321c3e7c7a2d807e0afbb30075d92f9f8284e56", checked := Try.checked }
namespace Rows
def none {H : Type} : Left H := { results := [], args := [] }

/-- 'almonerlaw08.PipeCarries': WHATEVER THE INPUT: true; the input reads as it did. -/
def pipeCarriesSpec : ChangeSpec := { name := "pipeCarries", fn := fun _ => fun
  | [d1, d2] => { results := [.lit (.bool true)], args := [d1, d2] }
  | _ => none }
def pipeCarriesRow : OpenClaim := { program := "ytlidkcbjahaahaa", sum := "62492458757e24561ef347a05321c3e7c7a2d807e0afbb30075d92f9f8284e56", func := "almoner/almonerlaw08.PipeCarries", spec := "pipeCarries", apart := false }
def PipeCarriesSaid : Prop := pipeCarriesRow.holds Try.pinned (OpenSpec.ofChange pipeCarriesSpec)

/-- ITS FALSE NEIGHBOUR: 'it returns false'. Refute it at one input. -/
def pipeCarriesWrong : ChangeSpec := { name := "pipeCarries", fn := fun _ => fun
  | [d1, d2] => { results := [.lit (.bool false)], args := [d1, d2] }
  | _ => none }
def PipeCarriesWrongFalsely : Prop := pipeCarriesRow.holds Try.pinned (OpenSpec.ofChange pipeCarriesWrong)

/-- 'almonerlaw08.PipeEnds': WHATEVER THE INPUT: true; the input reads as it did. -/
def pipeEndsSpec : ChangeSpec := { name := "pipeEnds", fn := fun _ => fun
  | [d1, d2, d3] => { results := [.lit (.bool true)], args := [d1, d2, d3] }
  | _ => none }
def pipeEndsRow : OpenClaim := { program := "ytlidkcbjahaahaa", sum := "62492458757e24561ef347a05321c3e7c7a2d807e0afbb30075d92f9f8284e56", func := "almoner/almonerlaw08.PipeEnds", spec := "pipeEnds", apart := false }
def PipeEndsSaid : Prop := pipeEndsRow.holds Try.pinned (OpenSpec.ofChange pipeEndsSpec)

/-- ITS FALSE NEIGHBOUR: 'it returns false'. Refute it at one input. -/
def pipeEndsWrong : ChangeSpec := { name := "pipeEnds", fn := fun _ => fun
  | [d1, d2, d3] => { results := [.lit (.bool false)], args := [d1, d2, d3] }
  | _ => none }
def PipeEndsWrongFalsely : Prop := pipeEndsRow.holds Try.pinned (OpenSpec.ofChange pipeEndsWrong)

/-- 'almonerlaw08.PipePlays': WHATEVER THE INPUT: true; the input reads as it did. -/
def pipePlaysSpec : ChangeSpec := { name := "pipePlays", fn := fun _ => fun
  | [d] => { results := [.lit (.bool true)], args := [d] }
  | _ => none }
def pipePlaysRow : OpenClaim := { program := "ytlidkcbjahaahaa", sum := "62492458757e24561ef347a05321c3e7c7a2d807e0afbb30075d92f9f8284e56", func := "almoner/almonerlaw08.PipePlays", spec := "pipePlays", apart := false }
def PipePlaysSaid : Prop := pipePlaysRow.holds Try.pinned (OpenSpec.ofChange pipePlaysSpec)

/-- ITS FALSE NEIGHBOUR: 'it returns false'. Refute it at one input. -/
def pipePlaysWrong : ChangeSpec := { name := "pipePlays", fn := fun _ => fun
  | [d] => { results := [.lit (.bool false)], args := [d] }
  | _ => none }
def PipePlaysWrongFalsely : Prop := pipePlaysRow.holds Try.pinned (OpenSpec.ofChange pipePlaysWrong)

/- THE SECOND FORM. 'bulk': how many values and letters a reading holds, each counted each time it is reached (what is shared counts as often as it is met; a slice's spare places count too). A statement '..UptoSaid' is the law's where the arguments, and the package variables that the reading takes, are together of bulk at most 1048576: NARROWER than '..Said'. Prove '..Said' where nothing that the law and all that it calls make is longer than what came in: it says more and counts as full. Else prove '..UptoSaid'. A law counts once. -/
mutual
def uptoBulk {H : Type} : DataW H → Nat
  | .lit (.string bytes) => bytes.length + 1
  | .lit _ => 1
  | .nil => 1
  | .ptr d => uptoBulk d + 1
  | .slice elems spare => uptoBulkAll elems + uptoBulkAll spare + 1
  | .agg parts => uptoBulkAll parts + 1
  | .iface _ d => uptoBulk d + 1
  | .map entries => uptoBulkEntries entries + 1
  | .held _ => 1
def uptoBulkAll {H : Type} : List (DataW H) → Nat
  | [] => 0
  | d :: r => uptoBulk d + uptoBulkAll r
def uptoBulkEntries {H : Type} : List (Lit × DataW H) → Nat
  | [] => 0
  | x :: r => uptoBulkEntry x + uptoBulkEntries r
def uptoBulkEntry {H : Type} : Lit × DataW H → Nat
  | (.string bytes, d) => bytes.length + uptoBulk d + 1
  | (_, d) => uptoBulk d + 1
 end
def uptoSmall : (H : Type) → List (DataW H) → Bool := fun _ ds => decide (uptoBulkAll ds ≤ 1048576)
def OpenSpec.upto (s : _root_.Go.ChangeSpec) : _root_.Go.OpenSpec := { _root_.Go.OpenSpec.ofChange s with cond := some uptoSmall }

/-- 'almonerlaw08.PipeCarries', WHERE WHAT IT READS IS OF BULK AT MOST 1048576: true; the input reads as it did. -/
def pipeCarriesUptoRow : OpenClaim := { program := "ytlidkcbjahaahaa", sum := "62492458757e24561ef347a05321c3e7c7a2d807e0afbb30075d92f9f8284e56", func := "almoner/almonerlaw08.PipeCarries", spec := "pipeCarries", apart := false, narrowed := true }
def PipeCarriesUptoSaid : Prop := pipeCarriesUptoRow.holds Try.pinned (OpenSpec.upto pipeCarriesSpec)

/-- 'almonerlaw08.PipeEnds', WHERE WHAT IT READS IS OF BULK AT MOST 1048576: true; the input reads as it did. -/
def pipeEndsUptoRow : OpenClaim := { program := "ytlidkcbjahaahaa", sum := "62492458757e24561ef347a05321c3e7c7a2d807e0afbb30075d92f9f8284e56", func := "almoner/almonerlaw08.PipeEnds", spec := "pipeEnds", apart := false, narrowed := true }
def PipeEndsUptoSaid : Prop := pipeEndsUptoRow.holds Try.pinned (OpenSpec.upto pipeEndsSpec)

/-- 'almonerlaw08.PipePlays', WHERE WHAT IT READS IS OF BULK AT MOST 1048576: true; the input reads as it did. -/
def pipePlaysUptoRow : OpenClaim := { program := "ytlidkcbjahaahaa", sum := "62492458757e24561ef347a05321c3e7c7a2d807e0afbb30075d92f9f8284e56", func := "almoner/almonerlaw08.PipePlays", spec := "pipePlays", apart := false, narrowed := true }
def PipePlaysUptoSaid : Prop := pipePlaysUptoRow.holds Try.pinned (OpenSpec.upto pipePlaysSpec)

end Rows
end Go.Proofs.Ytlidkcbjahaahaa
