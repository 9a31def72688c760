/- Opening an argument that is a slice of structs of one-cell fields (a guide's page's lemma, meant for copying). -/
import Derived.Test.YtgpfjcogaheopaaLaw
import Derived.Deep.Slices
import Derived.Deep.Fields
import Derived.ChangeSame
set_option linter.all false
namespace Go.Proofs.Ytgpfjcogaheopaa
open Go.ChangeShapes Go.WideShapes Go.Deep
section
variable {H : Type} {enc : TypeId × Value → H} {P : Program} {w : World} {base : Nat} {spare : Nat → Bool} {held : Bool}
end
end Go.Proofs.Ytgpfjcogaheopaa
