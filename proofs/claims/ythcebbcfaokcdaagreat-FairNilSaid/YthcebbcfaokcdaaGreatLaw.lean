/- The law, run. -/
import Derived.Test.YthcebbcfaokcdaaGreatLive
import Derived.Test.YthcebbcfaokcdaaGreatRh3
namespace Go.Proofs.YthcebbcfaokcdaaGreat.fairNil
open Go.RowKit
noncomputable def entsL : List (Go.Rh.Ent Tryz.prog) := ⟨8, fun _ _ => Go.Rh.isTrue, fun _ _ => Go.Rh.isTrue_ok Go.Rh.Tryz.live_ok⟩ :: Go.Rh.Tryz.entsM
noncomputable def allL (n : Nat) : Go.Rh.FS := Go.Rh.run Tryz.prog (Go.Rh.tblT entsL) n
theorem allL_ok (n : Nat) : Go.Rh.SpecsOK Tryz.prog (allL n) := Go.Rh.run_ok (by kernel_rfl) entsL n
set_option maxRecDepth 1000000
theorem run_neg (k : Nat) (b : Int) : Go.Rh.saysTrue (allL 200 3 [.int .i64 (.negSucc k), .int .i64 b] Go.Rh.emptyH) = true := by kernel_rfl
theorem run_zero (b : Int) : Go.Rh.saysTrue (allL 200 3 [.int .i64 (.ofNat 0), .int .i64 b] Go.Rh.emptyH) = true := by kernel_rfl
theorem run_pos (k : Nat) (b : Int) : Go.Rh.saysTrue (allL 200 3 [.int .i64 (.ofNat (k + 1)), .int .i64 b] Go.Rh.emptyH) = true := by kernel_rfl
theorem run_any (a b : Int) : Go.Rh.saysTrue (allL 200 3 [.int .i64 a, .int .i64 b] Go.Rh.emptyH) = true := by
  cases a with
  | ofNat n => cases n with
    | zero => exact run_zero b
    | succ k => exact run_pos k b
  | negSucc k => exact run_neg k b

/-! ### STEP 1: THE WALK -/
theorem walk (a0 : Int) (a1 : Int) (w : World) :
    Calls Tryz.prog 3 #[.int .i64 a0, .int .i64 a1] w fun e w' => e = .returned (.bool true) ∧ Below w.heap.size w w' := by
  obtain ⟨h', hc⟩ := Go.Rh.saysT_ok (allL_ok 200) (run_any a0 a1)
  exact Go.Rh.walk_of hc ⟨_, _, rfl, rfl, _, _, rfl, rfl, rfl⟩ w

end Go.Proofs.YthcebbcfaokcdaaGreat.fairNil
