/- The law, run. -/
import Derived.Test.YtepgjdoablhgmaaGreatLive
import Derived.Test.YtepgjdoablhgmaaGreatRh3
namespace Go.Proofs.YtepgjdoablhgmaaGreat.auditNil
open Go.RowKit
noncomputable def entsL : List (Go.Rh.Ent Tryz.prog) := ⟨8, fun _ _ => Go.Rh.isTrue, fun _ _ => Go.Rh.isTrue_ok Go.Rh.Tryz.live_ok⟩ :: Go.Rh.Tryz.entsM
noncomputable def allL (n : Nat) : Go.Rh.FS := Go.Rh.run Tryz.prog (Go.Rh.tblT entsL) n
theorem allL_ok (n : Nat) : Go.Rh.SpecsOK Tryz.prog (allL n) := Go.Rh.run_ok (by kernel_rfl) entsL n
set_option maxRecDepth 1000000
theorem run_any (a0 : Int) : Go.Rh.saysTrue (allL 200 3 [.int .i64 a0] Go.Rh.emptyH) = true := by kernel_rfl

/-! ### STEP 1: THE WALK -/
theorem walk (a0 : Int) (w : World) :
    Calls Tryz.prog 3 #[.int .i64 a0] w fun e w' => e = .returned (.bool true) ∧ Below w.heap.size w w' := by
  obtain ⟨h', hc⟩ := Go.Rh.saysT_ok (allL_ok 200) (run_any a0)
  exact Go.Rh.walk_of hc ⟨_, _, rfl, rfl, rfl⟩ w

end Go.Proofs.YtepgjdoablhgmaaGreat.auditNil
