/-
The run of landaulaw22.known ends in true.
-/
import Derived.Test.YtcaaikdcbmncmaaGreatDoorEnv
open Go LA Go.Proofs
namespace K
set_option maxRecDepth 100000
theorem known22_run : okT (callF E sp0 (exec E sp0 100000) 21 [] noH) = true := by kernel_rfl
end K
