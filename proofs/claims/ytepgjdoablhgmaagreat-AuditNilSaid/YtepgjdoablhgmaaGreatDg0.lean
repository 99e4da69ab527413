/- Digests, worked out. -/
import Derived.Test.YtepgjdoablhgmaaGreatTab
import Derived.Test.YtepgjdoablhgmaaGreatRh3
namespace Go.Rh.Tryz
open Go.Proofs
theorem dg0 : saysV (.tuple [(.agg [(.int .i64 (.ofNat 0)), (.int .i64 (.ofNat 1)), (.int .i64 (.ofNat 0)), (.int .i64 (.ofNat 0)), (.int .i64 (.ofNat 0)), AV.nilslice]), (.int .i64 (.ofNat 0))]) (all 20 69 [(.str 7 65792)] emptyH) = true := by decide +kernel
theorem dg1 : saysV (.str 10 1103823437824) (all 20 190 [(.agg [(.int .i64 (.ofNat 0)), (.int .i64 (.negSucc 0)), (.int .i64 (.ofNat 0)), (.int .i64 (.ofNat 1)), (.int .i64 (.ofNat 0)), (.int .i64 (.ofNat 0)), (.int .i64 (.ofNat 0)), (.str 0 0)])] emptyH) = true := by decide +kernel
theorem dg2 : saysV (.str 11 282574505181441) (all 20 190 [(.agg [(.int .i64 (.ofNat 1)), (.int .i64 (.ofNat 0)), (.int .i64 (.negSucc 0)), (.int .i64 (.ofNat 1)), (.int .i64 (.ofNat 0)), (.int .i64 (.ofNat 0)), (.int .i64 (.ofNat 0)), (.str 0 0)])] emptyH) = true := by decide +kernel
theorem dg3 : saysV (.str 65 67091415500920801598741684340508175455371208587989253135967239997292409195149658886290890069906417321068224707395218661736626061701471560538565949177987585) (all 20 190 [(.agg [(.int .i64 (.ofNat 2)), (.int .i64 (.negSucc 0)), (.int .i64 (.ofNat 0)), (.int .i64 (.ofNat 1)), (.int .i64 (.ofNat 0)), (.int .i64 (.ofNat 0)), (.int .i64 (.ofNat 0)), (.str 53 846812716233846507999931995847164785412838349745154182380446774906893264170199617090813014397023420831796953723725756202298369)])] emptyH) = true := by decide +kernel
end Go.Rh.Tryz
