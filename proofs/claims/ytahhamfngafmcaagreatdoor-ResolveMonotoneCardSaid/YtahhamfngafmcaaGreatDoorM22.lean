/- The program's policies: Pair, Valid. -/
import Derived.Test.YtahhamfngafmcaaGreatDoorProg
import Derived.Test.YtahhamfngafmcaaGreatDoorM21
set_option linter.unusedVariables false
set_option linter.unusedSimpArgs false
set_option maxRecDepth 100000
set_option maxHeartbeats 4000000
namespace Go.Proofs.YtahhamfngafmcaaGreatDoor
open Go Go.Vm
theorem Weak.agg{xs ys:List AV}(h:WeakL xs ys):Weak (.agg xs) (.agg ys):=fun E w ι v hv=>by
 cases hv with
 |agg _ c hs hh=>
  have:=WeakL.rel h (show RL E w ι xs c from⟨hs,hh⟩)
  exact .agg _ c this.1 this.2
theorem WeakL.refl:∀{xs:List AV},WeakL xs xs
 |[]=>trivial
 |_::_=>⟨Weak.refl,WeakL.refl⟩
end Go.Proofs.YtahhamfngafmcaaGreatDoor
