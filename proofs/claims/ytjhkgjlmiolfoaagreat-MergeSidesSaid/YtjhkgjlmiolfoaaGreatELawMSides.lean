/- The law. -/
import Derived.Test.YtjhkgjlmiolfoaaGreatL8
import Derived.Test.YtjhkgjlmiolfoaaGreatELTMergeSides
set_option linter.unusedVariables false
namespace Go.Proofs.YtjhkgjlmiolfoaaGreat
open Go.cv
theorem mergeSides_holds:Rows.MergeSidesSaid:=aeW λd b h _=>ako (aAk h) b
#print axioms mergeSides_holds
end Go.Proofs.YtjhkgjlmiolfoaaGreat
