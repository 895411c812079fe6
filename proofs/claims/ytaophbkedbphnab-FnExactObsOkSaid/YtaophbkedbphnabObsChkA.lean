/- Tenths from -99.9 to 719.2: ten times one is whole again, and its rounding is itself; each looked at. -/
import Derived.Test.YtaophbkedbphnabConvL
import Derived.Test.YtaophbkedbphnabQx20
set_option linter.unusedVariables false
set_option linter.unusedSimpArgs false
namespace Go.Proofs.Ytaophbkedbphnab.Pure
open Go.RowKit Go.Proofs.Ytaophbkedbphnab.Q Go.Proofs.Ytaophbkedbphnab.Gen Go.Proofs.YtaophbkedbphnabW.PrintWords Go.Proofs.YtaophbkedbphnabW.PrintMore Go.Proofs.YtaophbkedbphnabW.PrintFlt
def F (n : Int) : Nat := fdiv (foi n) 4621819117588971520
def chk (n : Int) : Bool := fin (F n) && decide (F n < 18446744073709551616) && (fmul (F n) 4621819117588971520 == foi n) && !(fgt (fabs (F n)) 4681608360884174848) && (math_Round.f (foi n) == some (foi n))
theorem chk0 : allB chk 10 (-999) = true := by decide +kernel
theorem chk1 : allB chk 10 (25) = true := by decide +kernel
theorem chk2 : allB chk 10 (1049) = true := by decide +kernel
theorem chk3 : allB chk 10 (2073) = true := by decide +kernel
theorem chk4 : allB chk 10 (3097) = true := by decide +kernel
theorem chk5 : allB chk 10 (4121) = true := by decide +kernel
theorem chk6 : allB chk 10 (5145) = true := by decide +kernel
theorem chk7 : allB chk 10 (6169) = true := by decide +kernel
end Go.Proofs.Ytaophbkedbphnab.Pure
