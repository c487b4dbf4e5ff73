/- An instruction's fields out of its cells. No condition. -/
import Derived.Test.YtahepinbmcgbnaaVc14
set_option linter.unusedVariables false
namespace Go.Proofs.Ytahepinbmcgbnaa.Vm
def ci (f : List SV) (j : Nat) : Int := match f[j]? with
  | some (.a (.int _ x)) => x
  | _ => 0
def mayC (f : List SV) : Bool := mayF (ci f 0) (ci f 1) (ci f 2) (ci f 3) (ci f 4) (ci f 5) (ci f 6) (ci f 7) (ci f 8)
def layC (f : List SV) : List Int := layF (ci f 0) (ci f 1) (ci f 2) (ci f 3) (ci f 4) (ci f 5) (ci f 6) (ci f 7)
theorem mayC_iC (o a b c k s z i m : Int) : mayC (iC o a b c k s z i m) = mayF o a b c k s z i m := rfl
theorem layC_iC (o a b c k s z i m : Int) : layC (iC o a b c k s z i m) = layF o a b c k s z i := rfl
end Go.Proofs.Ytahepinbmcgbnaa.Vm
