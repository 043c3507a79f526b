/- Lemmas. -/
import Derived.Test.YtnomkooikbhgmaaGreatDoorProg
import Derived.Sort.AssemblyPlain
import Derived.Test.YtnomkooikbhgmaaGreatDoorM26
set_option linter.unusedVariables false
set_option linter.unusedSimpArgs false
set_option maxRecDepth 100000
set_option maxHeartbeats 4000000
namespace Go.Proofs.YtnomkooikbhgmaaGreatDoor
open Go Go.Vm
/-! ### Two boxes joined -/
/-! ### Pairs of what is cut by ranges -/
section
variable {t:Tp} {i:Nt} {A:List Bx}
end
/-! ### Sums over all pairs -/
/-! ### Real headers and two boxes -/
/-! ### All pairs -/
theorem wu_id{p:Int}(h0:0<=p)(h1:p<=4294967295):wu p=p:=by
 unfold wu;simp only[IntKind.wrap,IntKind.signed,IntKind.bits];simp;omega
end Go.Proofs.YtnomkooikbhgmaaGreatDoor
