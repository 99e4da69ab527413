/- Digests, worked out. -/
import Derived.Test.YtepgjdoablhgmaaGreatTab
import Derived.Test.YtepgjdoablhgmaaGreatRh3
namespace Go.Rh.Tryz
open Go.Proofs
theorem dg4 : saysV (.str 12 1213648186380073325101825) (all 20 190 [(.agg [(.int .i64 (.ofNat 3)), (.int .i64 (.ofNat 0)), (.int .i64 (.negSucc 0)), (.int .i64 (.ofNat 1)), (.int .i64 (.ofNat 0)), (.int .i64 (.ofNat 0)), (.int .i64 (.ofNat 1)), (.str 0 0)])] emptyH) = true := by decide +kernel
theorem dg5 : saysV (.tuple [(.agg [(.int .i64 (.ofNat 0)), (.int .i64 (.negSucc 0)), (.int .i64 (.ofNat 0)), (.int .i64 (.ofNat 1)), (.int .i64 (.ofNat 0)), (.int .i64 (.ofNat 0)), (.int .i64 (.ofNat 0)), (.str 0 0)]), (.int .i64 (.ofNat 0))]) (all 20 192 [(.str 10 1103823437824)] emptyH) = true := by decide +kernel
theorem dg6 : saysV (.tuple [(.agg [(.int .i64 (.ofNat 1)), (.int .i64 (.ofNat 0)), (.int .i64 (.negSucc 0)), (.int .i64 (.ofNat 1)), (.int .i64 (.ofNat 0)), (.int .i64 (.ofNat 0)), (.int .i64 (.ofNat 0)), (.str 0 0)]), (.int .i64 (.ofNat 0))]) (all 20 192 [(.str 11 282574505181441)] emptyH) = true := by decide +kernel
theorem dg7 : saysV (.tuple [(.agg [(.int .i64 (.ofNat 3)), (.int .i64 (.ofNat 0)), (.int .i64 (.negSucc 0)), (.int .i64 (.ofNat 1)), (.int .i64 (.ofNat 0)), (.int .i64 (.ofNat 0)), (.int .i64 (.ofNat 1)), (.str 0 0)]), (.int .i64 (.ofNat 0))]) (all 20 192 [(.str 12 1213648186380073325101825)] emptyH) = true := by decide +kernel
end Go.Rh.Tryz
