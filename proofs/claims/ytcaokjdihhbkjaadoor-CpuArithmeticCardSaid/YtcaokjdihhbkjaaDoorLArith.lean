/- The layer cpu: walks of the law CpuArithmetic. -/
import Derived.Test.YtcaokjdihhbkjaaDoorLArTrue
import Derived.Test.YtcaokjdihhbkjaaDoorLArFalse
set_option linter.unusedVariables false
set_option linter.unusedSimpArgs false
set_option maxRecDepth 10000
namespace Go.Proofs.YtcaokjdihhbkjaaDoor
open Go Go.RowKit Go.Proofs.Sx

theorem law_arith (a b : Int) (w : World) (hT : Tab w) (ha : inK .i32 a) (hb : inK .i32 b) : Calls Tryd.prog 5 #[.int .i32 a, .int .i32 b] w fun e w' => e = .returned (.bool true) ∧ Only none' w w' := by
  by_cases h0 : b = 0
  · subst h0; exact law_arTrue a w hT ha hb
  · exact law_arFalse a b w hT ha hb h0

end Go.Proofs.YtcaokjdihhbkjaaDoor
