/- 'live' is true. -/
import Derived.Test.YtepgjdoablhgmaaGreatMemo
set_option maxRecDepth 1000000
namespace Go.Rh.Tryz
open Go.Proofs
theorem live_run : saysV (.bool true) (allM 200 8 [] emptyH) = true := by decide +kernel
theorem live_ok (h : Heap) : CallOK Tryz.prog 8 [] h false (.bool true) h := saysV_ok (allM_ok 200) live_run rfl rfl h
end Go.Rh.Tryz
