/- Printed by wip/tools/gen.py: functions of the program as plain functions over abstract values, each with its proof. -/
import Derived.Test.YtepgjdoablhgmaaGreatProg
import Derived.Test.YtepgjdoablhgmaaGreatRh3
set_option maxRecDepth 1000000
set_option linter.unusedVariables false
namespace Go.Rh.Tryz
open Go.Proofs
/-- (roundhouse/mask.Mask).cores -/
noncomputable def F395 (S : FS) (D : FD) (args : List AV) (h : Heap) : Option (Bool × AV × Heap) :=
 kv1 args fun m_1 =>
 knt m_1 (Heap.pushK h (.cells (AV.cells m_1) true 98) fun h2 =>
 (some (false, (.func 401 [(.ptr (Heap.next h) 0)]), h2)))
theorem F395_ok {S : FS} {D : FD} (hS : SpecsOK Tryz.prog S) (hD : DynOK Tryz.prog D) : SpecOK Tryz.prog 395 (F395 S D) :=
  SpecOK.of (c := match Tryz.f395.body with | some c => c | none => .skip) (by kernel_rfl) hS hD ⟨Tryz.func395, rfl, by decide⟩
    (.seq .n (.seq .n .n)) 1 (fun args h => by kernel_rfl)
/-- (*roundhouse/node.asked).newer$1 -/
noncomputable def F396 (S : FS) (D : FD) (args : List AV) (h : Heap) : Option (Bool × AV × Heap) :=
 kv2 args fun j_1 v2 =>
 knt j_1 (Heap.pushK h (.cells (AV.cells j_1) true 153) fun h3 =>
 ob (kfa 0 (.ptr (Heap.next h) 0)) fun v4 =>
 ob (kload h3 v4) fun v5 =>
 ob (kload h3 v2) fun v6 =>
 ob (knil v6) fun v7 =>
 ob (kfa 0 v7) fun v8 =>
 ob (kfa 3 v8) fun v9 =>
 ob (kload h3 v9) fun v10 =>
 ob (kbinI .eql v5 v10) fun v11 =>
 ob (kgv true v11 (kfa 1 (.ptr (Heap.next h) 0))) fun v12 =>
 ob (kgv true v11 (kload h3 v12)) fun v13 =>
 ob (kgv true v11 (kload h3 v2)) fun v14 =>
 ob (kgv true v11 (knil v14)) fun v15 =>
 ob (kgv true v11 (kfa 0 v15)) fun v16 =>
 ob (kgv true v11 (kfa 4 v16)) fun v17 =>
 ob (kgv true v11 (kload h3 v17)) fun v18 =>
 ob (kgv true v11 (kbinI .gtr v13 v18)) fun v19 =>
 ob (kpick v11 v19 (.bool false)) fun v20 =>
 (some (false, v20, h3)))
theorem F396_ok {S : FS} {D : FD} (hS : SpecsOK Tryz.prog S) (hD : DynOK Tryz.prog D) : SpecOK Tryz.prog 396 (F396 S D) :=
  SpecOK.of (c := match Tryz.f396.body with | some c => c | none => .skip) (by kernel_rfl) hS hD ⟨Tryz.func396, rfl, by decide⟩
    (.seq .n (.seq .n .n)) 2 (fun args h => by kernel_rfl)
/-- roundhouse/acct.Times -/
noncomputable def F397 (S : FS) (D : FD) (args : List AV) (h : Heap) : Option (Bool × AV × Heap) :=
 kv2 args fun a_1 b_2 =>
 ob (amaxs true [a_1, (.int .i64 (.ofNat 0))]) fun v3 =>
 ob (amaxs true [b_2, (.int .i64 (.ofNat 0))]) fun v4 =>
 ob (kbinI .gtr v3 (.int .i64 (.ofNat 0))) fun v5 =>
 ob (kgv true v5 (some v4)) fun v6 =>
 ob (kgv true v5 (some v3)) fun v7 =>
 ob (kgv true v5 (kbinI .quo (.int .i64 (.ofNat 9223372036854775807)) v7)) fun v8 =>
 ob (kgv true v5 (kbinI .gtr v6 v8)) fun v9 =>
 ob (kpick v5 v9 (.bool false)) fun v10 =>
 kif v10
  ((some (false, (.int .i64 (.ofNat 9223372036854775807)), h)))
  (ob (kbinI .mul v3 v4) fun v11 =>
  (some (false, v11, h)))
theorem F397_ok {S : FS} {D : FD} (hS : SpecsOK Tryz.prog S) (hD : DynOK Tryz.prog D) : SpecOK Tryz.prog 397 (F397 S D) :=
  SpecOK.of (c := match Tryz.f397.body with | some c => c | none => .skip) (by kernel_rfl) hS hD ⟨Tryz.func397, rfl, by decide⟩
    (.seq .n (.seq .n (.seq (.seq .n (.dup (.seq .n .n) .n)) (.seq .n .n)))) 2 (fun args h => by kernel_rfl)
/-- roundhouse/cores.block -/
noncomputable def F398 (S : FS) (D : FD) (args : List AV) (h : Heap) : Option (Bool × AV × Heap) :=
 kv1 args fun l_1 =>
 knt l_1 (Heap.pushK h (.cells (AV.cells l_1) true 57) fun h2 =>
 (some (false, (.func 402 [(.ptr (Heap.next h) 0)]), h2)))
theorem F398_ok {S : FS} {D : FD} (hS : SpecsOK Tryz.prog S) (hD : DynOK Tryz.prog D) : SpecOK Tryz.prog 398 (F398 S D) :=
  SpecOK.of (c := match Tryz.f398.body with | some c => c | none => .skip) (by kernel_rfl) hS hD ⟨Tryz.func398, rfl, by decide⟩
    (.seq .n (.seq .n .n)) 1 (fun args h => by kernel_rfl)
/-- roundhouse/cores.cyclic -/
noncomputable def F399 (S : FS) (D : FD) (args : List AV) (h : Heap) : Option (Bool × AV × Heap) :=
 kv1 args fun l_1 =>
 knt l_1 (Heap.pushK h (.cells (AV.cells l_1) true 57) fun h2 =>
 (some (false, (.func 403 [(.ptr (Heap.next h) 0)]), h2)))
theorem F399_ok {S : FS} {D : FD} (hS : SpecsOK Tryz.prog S) (hD : DynOK Tryz.prog D) : SpecOK Tryz.prog 399 (F399 S D) :=
  SpecOK.of (c := match Tryz.f399.body with | some c => c | none => .skip) (by kernel_rfl) hS hD ⟨Tryz.func399, rfl, by decide⟩
    (.seq .n (.seq .n .n)) 1 (fun args h => by kernel_rfl)
/-- roundhouse/procs.number -/
noncomputable def F400 (S : FS) (D : FD) (args : List AV) (h : Heap) : Option (Bool × AV × Heap) :=
 kv1 args fun n_1 =>
 ob (kbinI .geq n_1 (.int .i64 (.ofNat 0))) fun v2 =>
 ob (kgv true v2 (some n_1)) fun v3 =>
 ob (kgv true v2 (kbinI .leq v3 (.int .i64 (.ofNat 1099511627776)))) fun v4 =>
 ob (kpick v2 v4 (.bool false)) fun v5 =>
 (some (false, v5, h))
theorem F400_ok {S : FS} {D : FD} (hS : SpecsOK Tryz.prog S) (hD : DynOK Tryz.prog D) : SpecOK Tryz.prog 400 (F400 S D) :=
  SpecOK.of (c := match Tryz.f400.body with | some c => c | none => .skip) (by kernel_rfl) hS hD ⟨Tryz.func400, rfl, by decide⟩
    (.seq .n (.seq .n .n)) 1 (fun args h => by kernel_rfl)
/-- (roundhouse/mask.Mask).cores$1 -/
noncomputable def F401 (S : FS) (D : FD) (args : List AV) (h : Heap) : Option (Bool × AV × Heap) :=
 kv2 args fun yield_1 v2 =>
 ob (iterD (fun vs3 ds4 h5 => kv3 vs3 fun yield_6 v7 v8 =>
  ob (kbinI .lss v8 (.int .i64 (.ofNat 256))) fun v9 =>
  kif v9
   (ob (kloadN 4 h5 v7) fun v10 =>
   ob (S 29 [v10, v8] h5) fun r11 => kres r11 (fun v12 h13 =>
   ob (kgv true v12 (some yield_6)) fun v16 =>
   ob (kgv true v12 (some v8)) fun v17 =>
   ob (kgc true v12 h13 (D v16 [v17] h13)) fun r18 => kres r18 (fun v19 h20 =>
   ob (kgv true v12 (aun .not v19)) fun v23 =>
   ob (kpick v12 v23 (.bool false)) fun v24 =>
   kif v24
    ((some ⟨2, [], ds4, h20⟩))
    (ob (kbinI .add v8 (.int .i64 (.ofNat 1))) fun v25 =>
    (some ⟨0, [yield_6, v7, v25], ds4, h20⟩))) (fun p21 h22 => (some ⟨3, [p21], ds4, h22⟩))) (fun p14 h15 => (some ⟨3, [p14], ds4, h15⟩)))
   ((some ⟨1, [], ds4, h5⟩))) rounds [yield_1, v2, (.int .i64 (.ofNat 0))] [] h) fun r26 => kcase (J.i r26) [kv0 (J.vs r26) ((dleave (fun h27 => (some (false, (.tuple []), h27))) (J.ds r26) (J.h r26))),
 kv0 (J.vs r26) ((dleave (fun h28 => (some (false, (.tuple []), h28))) (J.ds r26) (J.h r26))),
 kv1 (J.vs r26) fun p29 => (kds (J.ds r26) (some (true, p29, (J.h r26))))]
theorem F401_ok {S : FS} {D : FD} (hS : SpecsOK Tryz.prog S) (hD : DynOK Tryz.prog D) : SpecOK Tryz.prog 401 (F401 S D) :=
  SpecOK.of (c := match Tryz.f401.body with | some c => c | none => .skip) (by kernel_rfl) hS hD ⟨Tryz.func401, rfl, by decide⟩
    (.seq .n (.one (.loop [0, 1, 4] [(.exit 0, []), (.ret, []), (.pan, [])] (.seq .n (.seq (.dup .n .n) (.seq (.one (.seq .n (.seq .n (.dup .n .n)))) .n)))))) 2 (fun args h => by kernel_rfl)
/-- roundhouse/cores.block$1 -/
noncomputable def F402 (S : FS) (D : FD) (args : List AV) (h : Heap) : Option (Bool × AV × Heap) :=
 kv2 args fun yield_1 v2 =>
 ob (kloadN 2 h v2) fun v3 =>
 ob (S 145 [v3] h) fun r4 => kres r4 (fun v5 h6 =>
 ob (iterD (fun vs9 ds10 h11 => kv3 vs9 fun yield_12 v13 v14 =>
  ob (kbinI .lss v14 v13) fun v15 =>
  kif v15
   (ob (D yield_12 [v14] h11) fun r16 => kres r16 (fun v17 h18 =>
   ob (aun .not v17) fun v21 =>
   kif v21
    ((some ⟨2, [], ds10, h18⟩))
    (ob (kbinI .add v14 (.int .i64 (.ofNat 1))) fun v22 =>
    (some ⟨0, [yield_12, v13, v22], ds10, h18⟩))) (fun p19 h20 => (some ⟨3, [p19], ds10, h20⟩)))
   ((some ⟨1, [], ds10, h11⟩))) rounds [yield_1, v5, (.int .i64 (.ofNat 0))] [] h6) fun r23 => kcase (J.i r23) [kv0 (J.vs r23) ((dleave (fun h24 => (some (false, (.tuple []), h24))) (J.ds r23) (J.h r23))),
 kv0 (J.vs r23) ((dleave (fun h25 => (some (false, (.tuple []), h25))) (J.ds r23) (J.h r23))),
 kv1 (J.vs r23) fun p26 => (kds (J.ds r23) (some (true, p26, (J.h r23))))]) (fun p7 h8 => (some (true, p7, h8)))
theorem F402_ok {S : FS} {D : FD} (hS : SpecsOK Tryz.prog S) (hD : DynOK Tryz.prog D) : SpecOK Tryz.prog 402 (F402 S D) :=
  SpecOK.of (c := match Tryz.f402.body with | some c => c | none => .skip) (by kernel_rfl) hS hD ⟨Tryz.func402, rfl, by decide⟩
    (.seq .n (.one (.loop [0, 5, 6] [(.exit 0, []), (.ret, []), (.pan, [])] (.seq .n (.seq (.dup .n .n) (.seq (.one (.seq .n (.seq .n (.dup .n .n)))) .n)))))) 2 (fun args h => by kernel_rfl)
/-- roundhouse/cores.cyclic$1 -/
noncomputable def F403 (S : FS) (D : FD) (args : List AV) (h : Heap) : Option (Bool × AV × Heap) :=
 kv2 args fun yield_1 v2 =>
 ob (kfa 1 v2) fun v3 =>
 ob (kload h v3) fun v4 =>
 ob (iterD (fun vs5 ds6 h7 => kv4 vs5 fun yield_8 v9 v10 v11 =>
  ob (kbinI .lss v11 v10) fun v12 =>
  kif v12
   (ob (kfa 0 v9) fun v13 =>
   ob (kload h7 v13) fun v14 =>
   ob (iterD (fun vs15 ds16 h17 => kv7 vs15 fun yield_18 v19 place_20 v21 v22 v23 v24 =>
    ob (kbinI .lss v24 v23) fun v25 =>
    kif v25
     (ob (kfa 1 v19) fun v26 =>
     ob (kload h17 v26) fun v27 =>
     ob (kbinI .mul v24 v27) fun v28 =>
     ob (kbinI .add v28 place_20) fun v29 =>
     ob (D yield_18 [v29] h17) fun r30 => kres r30 (fun v31 h32 =>
     ob (aun .not v31) fun v35 =>
     kif v35
      ((some ⟨2, [], ds16, h32⟩))
      (ob (kbinI .add v24 (.int .i64 (.ofNat 1))) fun v36 =>
      (some ⟨0, [yield_18, v19, place_20, v21, v22, v23, v36], ds16, h32⟩))) (fun p33 h34 => (some ⟨3, [p33], ds16, h34⟩)))
     ((some ⟨1, [yield_18, v19, v21, v22], ds16, h17⟩))) rounds [yield_8, v9, v11, v10, v11, v14, (.int .i64 (.ofNat 0))] ds6 h7) fun r37 => kcase (J.i r37) [kv4 (J.vs r37) fun yield_38 v39 v40 v41 =>
    ob (kbinI .add v41 (.int .i64 (.ofNat 1))) fun v42 =>
    (some ⟨0, [yield_38, v39, v40, v42], (J.ds r37), (J.h r37)⟩),
   kv0 (J.vs r37) ((some ⟨2, [], (J.ds r37), (J.h r37)⟩)),
   kv1 (J.vs r37) fun p43 => (some ⟨3, [p43], (J.ds r37), (J.h r37)⟩)])
   ((some ⟨1, [], ds6, h7⟩))) rounds [yield_1, v2, v4, (.int .i64 (.ofNat 0))] [] h) fun r44 => kcase (J.i r44) [kv0 (J.vs r44) ((dleave (fun h45 => (some (false, (.tuple []), h45))) (J.ds r44) (J.h r44))),
 kv0 (J.vs r44) ((dleave (fun h46 => (some (false, (.tuple []), h46))) (J.ds r44) (J.h r44))),
 kv1 (J.vs r44) fun p47 => (kds (J.ds r44) (some (true, p47, (J.h r44))))]
theorem F403_ok {S : FS} {D : FD} (hS : SpecsOK Tryz.prog S) (hD : DynOK Tryz.prog D) : SpecOK Tryz.prog 403 (F403 S D) :=
  SpecOK.of (c := match Tryz.f403.body with | some c => c | none => .skip) (by kernel_rfl) hS hD ⟨Tryz.func403, rfl, by decide⟩
    (.seq .n (.one (.loop [0, 1, 6, 7] [(.exit 0, []), (.ret, []), (.pan, [])] (.seq .n (.seq (.dup .n .n) (.seq (.one (.seq .n (.seq .n (.one (.loop [0, 1, 3, 6, 7, 11, 12] [(.exit 2, [0, 1, 6, 7]), (.ret, []), (.pan, [])] (.seq .n (.seq (.dup .n .n) (.seq (.one (.seq .n (.seq .n (.dup .n .n)))) .n)))))))) .n)))))) 2 (fun args h => by kernel_rfl)
end Go.Rh.Tryz
