/- Printed by wip/tools/gen.py: functions of the program as plain functions over abstract values, each with its proof. -/
import Derived.Test.YtepgjdoablhgmaaGreatProg
import Derived.Test.YtepgjdoablhgmaaGreatRh3
set_option maxRecDepth 1000000
set_option linter.unusedVariables false
namespace Go.Rh.Tryz
open Go.Proofs
/-- roundhouse/tally.empty[bool] -/
noncomputable def F287 (S : FS) (D : FD) (args : List AV) (h : Heap) : Option (Bool × AV × Heap) :=
 kv1 args fun nodes_1 =>
 Heap.pushK h (.map [] [] 0) fun h2 =>
 ob (klenL nodes_1) fun v3 =>
 ob (iterD (fun vs4 ds5 h6 => kv4 vs4 fun m_7 v8 v9 v10 =>
  ob (kbinI .lss v10 v9) fun v11 =>
  kif v11
   (ob (kia 1 v8 v10) fun v12 =>
   ob (kload h6 v12) fun v13 =>
   ob (amapSet Tryz.prog h6 180 m_7 v13 AV.nilptr) fun h14 =>
   ob (kbinI .add v10 (.int .i64 (.ofNat 1))) fun v15 =>
   (some ⟨0, [m_7, v8, v9, v15], ds5, h14⟩))
   ((some ⟨1, [m_7], ds5, h6⟩))) rounds [(.map (Heap.next h)), nodes_1, v3, (.int .i64 (.ofNat 0))] [] h2) fun r16 => kcase (J.i r16) [kv1 (J.vs r16) fun m_17 =>
  (dleave (fun h18 => (some (false, m_17, h18))) (J.ds r16) (J.h r16))]
theorem F287_ok {S : FS} {D : FD} (hS : SpecsOK Tryz.prog S) (hD : DynOK Tryz.prog D) : SpecOK Tryz.prog 287 (F287 S D) :=
  SpecOK.of (c := match Tryz.f287.body with | some c => c | none => .skip) (by kernel_rfl) hS hD ⟨Tryz.func287, rfl, by decide⟩
    (.seq .n (.seq .n (.seq (.seq .n (.one (.loop [3, 7, 8, 9] [(.exit 0, [3])] (.seq .n (.seq (.dup .n .n) (.seq (.one (.seq .n .n)) .n)))))) (.seq .n .n)))) 1 (fun args h => by kernel_rfl)
/-- roundhouse/tally.empty[int] -/
noncomputable def F288 (S : FS) (D : FD) (args : List AV) (h : Heap) : Option (Bool × AV × Heap) :=
 kv1 args fun nodes_1 =>
 Heap.pushK h (.map [] [] 0) fun h2 =>
 ob (klenL nodes_1) fun v3 =>
 ob (iterD (fun vs4 ds5 h6 => kv4 vs4 fun m_7 v8 v9 v10 =>
  ob (kbinI .lss v10 v9) fun v11 =>
  kif v11
   (ob (kia 1 v8 v10) fun v12 =>
   ob (kload h6 v12) fun v13 =>
   ob (amapSet Tryz.prog h6 181 m_7 v13 AV.nilptr) fun h14 =>
   ob (kbinI .add v10 (.int .i64 (.ofNat 1))) fun v15 =>
   (some ⟨0, [m_7, v8, v9, v15], ds5, h14⟩))
   ((some ⟨1, [m_7], ds5, h6⟩))) rounds [(.map (Heap.next h)), nodes_1, v3, (.int .i64 (.ofNat 0))] [] h2) fun r16 => kcase (J.i r16) [kv1 (J.vs r16) fun m_17 =>
  (dleave (fun h18 => (some (false, m_17, h18))) (J.ds r16) (J.h r16))]
theorem F288_ok {S : FS} {D : FD} (hS : SpecsOK Tryz.prog S) (hD : DynOK Tryz.prog D) : SpecOK Tryz.prog 288 (F288 S D) :=
  SpecOK.of (c := match Tryz.f288.body with | some c => c | none => .skip) (by kernel_rfl) hS hD ⟨Tryz.func288, rfl, by decide⟩
    (.seq .n (.seq .n (.seq (.seq .n (.one (.loop [3, 7, 8, 9] [(.exit 0, [3])] (.seq .n (.seq (.dup .n .n) (.seq (.one (.seq .n .n)) .n)))))) (.seq .n .n)))) 1 (fun args h => by kernel_rfl)
/-- math/bits.Mul -/
noncomputable def F289 (S : FS) (D : FD) (args : List AV) (h : Heap) : Option (Bool × AV × Heap) :=
 kv2 args fun x_1 y_2 =>
 kif (.bool false)
  (ob (kconvI .u32 x_1) fun v3 =>
  ob (kconvI .u32 y_2) fun v4 =>
  ob (S 352 [v3, v4] h) fun r5 => kres r5 (fun v6 h7 =>
  ob (aextract v6 0) fun v10 =>
  ob (aextract v6 1) fun v11 =>
  ob (kconvI .u64 v10) fun v12 =>
  ob (kconvI .u64 v11) fun v13 =>
  (some (false, (.tuple [v12, v13]), h7))) (fun p8 h9 => (some (true, p8, h9))))
  (ob (S 353 [x_1, y_2] h) fun r14 => kres r14 (fun v15 h16 =>
  ob (aextract v15 0) fun v19 =>
  ob (aextract v15 1) fun v20 =>
  (some (false, (.tuple [v19, v20]), h16))) (fun p17 h18 => (some (true, p17, h18))))
theorem F289_ok {S : FS} {D : FD} (hS : SpecsOK Tryz.prog S) (hD : DynOK Tryz.prog D) : SpecOK Tryz.prog 289 (F289 S D) :=
  SpecOK.of (c := match Tryz.f289.body with | some c => c | none => .skip) (by kernel_rfl) hS hD ⟨Tryz.func289, rfl, by decide⟩
    (.seq .n (.seq (.dup (.seq .n (.seq .n .n)) .n) (.seq .n (.seq .n .n)))) 2 (fun args h => by kernel_rfl)
/-- roundhouse/agent.number -/
noncomputable def F290 (S : FS) (D : FD) (args : List AV) (h : Heap) : Option (Bool × AV × Heap) :=
 kv3 args fun job_1 epoch_2 step_3 =>
 ob (kbinI .mul (.int .i64 (.ofNat 256)) job_1) fun v4 =>
 ob (kbinI .mul (.int .i64 (.ofNat 16)) epoch_2) fun v5 =>
 ob (kbinI .add v4 v5) fun v6 =>
 ob (kbinI .add v6 step_3) fun v7 =>
 (some (false, v7, h))
theorem F290_ok {S : FS} {D : FD} (hS : SpecsOK Tryz.prog S) (hD : DynOK Tryz.prog D) : SpecOK Tryz.prog 290 (F290 S D) :=
  SpecOK.of (c := match Tryz.f290.body with | some c => c | none => .skip) (by kernel_rfl) hS hD ⟨Tryz.func290, rfl, by decide⟩
    (.seq .n (.seq .n .n)) 3 (fun args h => by kernel_rfl)
/-- roundhouse/ladder.Check -/
noncomputable def F291 (S : FS) (D : FD) (args : List AV) (h : Heap) : Option (Bool × AV × Heap) :=
 kv1 args fun p_1 =>
 knt p_1 (Heap.pushK h (.cells (AV.cells p_1) true 289) fun h2 =>
 ob (kfa 0 (.ptr (Heap.next h) 0)) fun v3 =>
 ob (kload h2 v3) fun v4 =>
 ob (S 292 [v4, (.int .i64 (.ofNat 1)), (.int .i64 (.ofNat 1073741824))] h2) fun r5 => kres r5 (fun v6 h7 =>
 ob (aun .not v6) fun v10 =>
 ob (kgv false v10 (kfa 1 (.ptr (Heap.next h) 0))) fun v11 =>
 ob (kgv false v10 (kload h7 v11)) fun v12 =>
 ob (kgv false v10 (kfa 0 (.ptr (Heap.next h) 0))) fun v13 =>
 ob (kgv false v10 (kload h7 v13)) fun v14 =>
 ob (kgc false v10 h7 (S 292 [v12, (.int .i64 (.ofNat 0)), v14] h7)) fun r15 => kres r15 (fun v16 h17 =>
 ob (kgv false v10 (aun .not v16)) fun v20 =>
 ob (kpick v10 (.bool true) v20) fun v21 =>
 ob (kgv false v21 (kfa 2 (.ptr (Heap.next h) 0))) fun v22 =>
 ob (kgv false v21 (kload h17 v22)) fun v23 =>
 ob (kgc false v21 h17 (S 292 [v23, (.int .i64 (.ofNat 0)), (.int .i64 (.ofNat 1073741824))] h17)) fun r24 => kres r24 (fun v25 h26 =>
 ob (kgv false v21 (aun .not v25)) fun v29 =>
 ob (kpick v21 (.bool true) v29) fun v30 =>
 ob (kgv false v30 (kfa 3 (.ptr (Heap.next h) 0))) fun v31 =>
 ob (kgv false v30 (kload h26 v31)) fun v32 =>
 ob (kgc false v30 h26 (S 292 [v32, (.int .i64 (.ofNat 0)), (.int .i64 (.ofNat 1073741824))] h26)) fun r33 => kres r33 (fun v34 h35 =>
 ob (kgv false v30 (aun .not v34)) fun v38 =>
 ob (kpick v30 (.bool true) v38) fun v39 =>
 kif v39
  ((some (false, (.int .i64 (.ofNat 1)), h35)))
  ((some (false, (.int .i64 (.ofNat 0)), h35)))) (fun p36 h37 => (some (true, p36, h37)))) (fun p27 h28 => (some (true, p27, h28)))) (fun p18 h19 => (some (true, p18, h19)))) (fun p8 h9 => (some (true, p8, h9))))
theorem F291_ok {S : FS} {D : FD} (hS : SpecsOK Tryz.prog S) (hD : DynOK Tryz.prog D) : SpecOK Tryz.prog 291 (F291 S D) :=
  SpecOK.of (c := match Tryz.f291.body with | some c => c | none => .skip) (by kernel_rfl) hS hD ⟨Tryz.func291, rfl, by decide⟩
    (.seq .n (.seq (.seq .n (.dup (.seq .n .n) .n)) (.seq .n .n))) 1 (fun args h => by kernel_rfl)
/-- roundhouse/ladder.in -/
noncomputable def F292 (S : FS) (D : FD) (args : List AV) (h : Heap) : Option (Bool × AV × Heap) :=
 kv3 args fun n_1 least_2 most_3 =>
 ob (kbinI .geq n_1 least_2) fun v4 =>
 ob (kgv true v4 (some n_1)) fun v5 =>
 ob (kgv true v4 (some most_3)) fun v6 =>
 ob (kgv true v4 (kbinI .leq v5 v6)) fun v7 =>
 ob (kpick v4 v7 (.bool false)) fun v8 =>
 (some (false, v8, h))
theorem F292_ok {S : FS} {D : FD} (hS : SpecsOK Tryz.prog S) (hD : DynOK Tryz.prog D) : SpecOK Tryz.prog 292 (F292 S D) :=
  SpecOK.of (c := match Tryz.f292.body with | some c => c | none => .skip) (by kernel_rfl) hS hD ⟨Tryz.func292, rfl, by decide⟩
    (.seq .n (.seq .n .n)) 3 (fun args h => by kernel_rfl)
/-- roundhouse/ladder.End -/
noncomputable def F293 (S : FS) (D : FD) (args : List AV) (h : Heap) : Option (Bool × AV × Heap) :=
 kv2 args fun p_1 r_2 =>
 knt p_1 (Heap.pushK h (.cells (AV.cells p_1) true 289) fun h3 =>
 knt r_2 (Heap.pushK h3 (.cells (AV.cells r_2) true 291) fun h4 =>
 ob (kloadN 4 h4 (.ptr (Heap.next h) 0)) fun v5 =>
 ob (kloadN 2 h4 (.ptr (Heap.next h3) 0)) fun v6 =>
 ob (S 232 [v5, v6] h4) fun r7 => kres r7 (fun v8 h9 =>
 ob (aun .not v8) fun v12 =>
 kif v12
  ((some (false, (.int .i64 (.negSucc 0)), h9)))
  (ob (kfa 0 (.ptr (Heap.next h3) 0)) fun v13 =>
  ob (kload h9 v13) fun v14 =>
  ob (kfa 0 (.ptr (Heap.next h) 0)) fun v15 =>
  ob (kload h9 v15) fun v16 =>
  ob (kbinI .add v14 v16) fun v17 =>
  ob (kfa 1 (.ptr (Heap.next h3) 0)) fun v18 =>
  ob (kload h9 v18) fun v19 =>
  ob (kbinI .neq v19 (.int .i64 (.negSucc 0))) fun v20 =>
  ob (kif v20
   (ob (kfa 1 (.ptr (Heap.next h3) 0)) fun v22 =>
   ob (kload h9 v22) fun v23 =>
   ob (amaxs false [v17, v23]) fun v24 =>
   (some ⟨0, [v24], [], h9⟩))
   ((some ⟨0, [v17], [], h9⟩))) fun r21 => kcase (J.i r21) [kv1 (J.vs r21) fun end_25 =>
   (dleave (fun h26 => (some (false, end_25, h26))) (J.ds r21) (J.h r21))])) (fun p10 h11 => (some (true, p10, h11)))))
theorem F293_ok {S : FS} {D : FD} (hS : SpecsOK Tryz.prog S) (hD : DynOK Tryz.prog D) : SpecOK Tryz.prog 293 (F293 S D) :=
  SpecOK.of (c := match Tryz.f293.body with | some c => c | none => .skip) (by kernel_rfl) hS hD ⟨Tryz.func293, rfl, by decide⟩
    (.seq .n (.seq (.seq .n (.dup (.seq .n .n) .n)) (.seq .n (.seq (.seq .n (.join [(.norm, [5])] (.dup .n .n))) (.seq .n .n))))) 2 (fun args h => by kernel_rfl)
/-- (*roundhouse/procs.Table).find -/
noncomputable def F294 (S : FS) (D : FD) (args : List AV) (h : Heap) : Option (Bool × AV × Heap) :=
 kv3 args fun t_1 pid_2 state_3 =>
 ob (kbinO Tryz.prog .eql 75 true t_1 AV.nilptr) fun v4 =>
 ob (kgv false v4 (some t_1)) fun v5 =>
 ob (kgv false v4 (knil v5)) fun v6 =>
 ob (kgv false v4 (kfa 0 v6)) fun v7 =>
 ob (kgv false v4 (kload h v7)) fun v8 =>
 ob (kgv false v4 (some pid_2)) fun v9 =>
 ob (kgv false v4 (alookup Tryz.prog h 134 v8 v9 false)) fun v10 =>
 ob (kgv false v4 (kbinO Tryz.prog .eql 135 true v10 AV.nilptr)) fun v11 =>
 ob (kpick v4 (.bool true) v11) fun v12 =>
 kif v12
  ((some (false, (.tuple [AV.nilptr, (.int .i64 (.ofNat 1))]), h)))
  (ob (knil t_1) fun v13 =>
  ob (kfa 0 v13) fun v14 =>
  ob (kload h v14) fun v15 =>
  ob (alookup Tryz.prog h 134 v15 pid_2 false) fun v16 =>
  ob (knil v16) fun v17 =>
  ob (kfa 0 v17) fun v18 =>
  ob (kfa 6 v18) fun v19 =>
  ob (kload h v19) fun v20 =>
  ob (D state_3 [v20] h) fun r21 => kres r21 (fun v22 h23 =>
  kif v22
   ((some (false, (.tuple [v16, (.int .i64 (.ofNat 0))]), h23)))
   ((some (false, (.tuple [AV.nilptr, (.int .i64 (.ofNat 14))]), h23)))) (fun p24 h25 => (some (true, p24, h25))))
theorem F294_ok {S : FS} {D : FD} (hS : SpecsOK Tryz.prog S) (hD : DynOK Tryz.prog D) : SpecOK Tryz.prog 294 (F294 S D) :=
  SpecOK.of (c := match Tryz.f294.body with | some c => c | none => .skip) (by kernel_rfl) hS hD ⟨Tryz.func294, rfl, by decide⟩
    (.seq .n (.seq (.seq .n (.dup (.seq .n .n) .n)) (.seq (.seq .n (.seq .n (.dup (.seq .n .n) .n))) (.seq .n .n)))) 3 (fun args h => by kernel_rfl)
/-- (*roundhouse/procs.Table).Signal$1 -/
noncomputable def F295 (S : FS) (D : FD) (args : List AV) (h : Heap) : Option (Bool × AV × Heap) :=
 kv1 args fun s_1 =>
 ob (kbinI .neq s_1 (.int .i64 (.ofNat 2))) fun v2 =>
 (some (false, v2, h))
theorem F295_ok {S : FS} {D : FD} (hS : SpecsOK Tryz.prog S) (hD : DynOK Tryz.prog D) : SpecOK Tryz.prog 295 (F295 S D) :=
  SpecOK.of (c := match Tryz.f295.body with | some c => c | none => .skip) (by kernel_rfl) hS hD ⟨Tryz.func295, rfl, by decide⟩
    (.seq .n (.seq .n .n)) 1 (fun args h => by kernel_rfl)
/-- (*roundhouse/ctl.job).without -/
noncomputable def F296 (S : FS) (D : FD) (args : List AV) (h : Heap) : Option (Bool × AV × Heap) :=
 kv2 args fun x_1 some_2 =>
 knt some_2 (Heap.pushK h (.cells (AV.cells some_2) true 88) fun h3 =>
 ob (knil x_1) fun v4 =>
 ob (kfa 0 v4) fun v5 =>
 ob (kfa 0 v5) fun v6 =>
 ob (kload h3 v6) fun v7 =>
 ob (S 40 [v7] h3) fun r8 => kres r8 (fun v9 h10 =>
 ob (S 121 [v9, (.func 354 [(.ptr (Heap.next h) 0)])] h10) fun r13 => kres r13 (fun v14 h15 =>
 (some (false, v14, h15))) (fun p16 h17 => (some (true, p16, h17)))) (fun p11 h12 => (some (true, p11, h12))))
theorem F296_ok {S : FS} {D : FD} (hS : SpecsOK Tryz.prog S) (hD : DynOK Tryz.prog D) : SpecOK Tryz.prog 296 (F296 S D) :=
  SpecOK.of (c := match Tryz.f296.body with | some c => c | none => .skip) (by kernel_rfl) hS hD ⟨Tryz.func296, rfl, by decide⟩
    (.seq .n (.seq .n .n)) 2 (fun args h => by kernel_rfl)
/-- (*roundhouse/ctl.job).steps$1 -/
noncomputable def F297 (S : FS) (D : FD) (args : List AV) (h : Heap) : Option (Bool × AV × Heap) :=
 kv4 args fun yield_1 v2 v3 v4 =>
 ob (kload h v2) fun v5 =>
 ob (knil v5) fun v6 =>
 ob (kfa 8 v6) fun v7 =>
 ob (kload h v7) fun v8 =>
 ob (klenL v8) fun v9 =>
 ob (iterD (fun vs10 ds11 h12 => kv7 vs10 fun yield_13 v14 v15 v16 v17 v18 v19 =>
  ob (kbinI .lss v19 v18) fun v20 =>
  kif v20
   (ob (ob (kia 1 v17 v19) fun v22 =>
    ob (kload h12 v22) fun v23 =>
    ob (kbinO Tryz.prog .eql 119 true v23 AV.nilptr) fun v24 =>
    kif v24
     ((some ⟨0, [yield_13, v14, v15, v16, v17, v18, v19], ds11, h12⟩))
     (kfree h12 (ob (abuildSlice Tryz.prog 37 1 [(0, (.int .i64 (.ofNat 5)))]) fun r25 => Heap.pushK h12 (.cells r25.1 true r25.2.2) fun h26 =>
     ob (kload h26 v14) fun v27 =>
     ob (knil v27) fun v28 =>
     ob (kfa 0 v28) fun v29 =>
     ob (kfa 0 v29) fun v30 =>
     ob (kload h26 v30) fun v31 =>
     ob (S 41 [v23] h26) fun r32 => kres r32 (fun v33 h34 =>
     ob (kbinI .eql v33 (.int .i64 (.ofNat 0))) fun v37 =>
     ob (kif v37
      (kfree h34 (ob (abuildSlice Tryz.prog 37 1 [(0, (.int .i64 (.ofNat 2)))]) fun r39 => Heap.pushK h34 (.cells r39.1 true r39.2.2) fun h40 =>
      ob (kload h40 v14) fun v41 =>
      ob (kload h40 v15) fun v42 =>
      ob (kload h40 v16) fun v43 =>
      ob (S 298 [v23] h40) fun r44 => kres r44 (fun v45 h46 =>
      kre (kload h46 v16) v43 (kre (kload h46 v15) v42 (kre (kload h46 v14) v41 (kro (Heap.next h34) h40 h46 (ob (S 299 [v41, v42, v19, v43] h46) fun r49 => kres r49 (fun v50 h51 =>
      kro (Heap.next h34) h40 h51 ((some ⟨0, [yield_13, v14, v15, v16, v19, (.slice (Heap.next h34) 0 1 1 r39.2.1), v45, v50, v17, v18, v19], ds11, h51⟩))) (fun p52 h53 => none)))))) (fun p47 h48 => none)))
      (ob (kbinI .eql v33 (.int .i64 (.ofNat 1))) fun v54 =>
      ob (kif v54
       (ob (abuildSlice Tryz.prog 37 1 [(0, (.int .i64 (.ofNat 4)))]) fun r56 => Heap.pushK h34 (.cells r56.1 true r56.2.2) fun h57 =>
       ob (S 298 [v23] h57) fun r58 => kres r58 (fun v59 h60 =>
       ob (kload h60 v14) fun v63 =>
       ob (knil v63) fun v64 =>
       ob (kfa 11 v64) fun v65 =>
       ob (kload h60 v65) fun v66 =>
       ob (kif v66
        (ob (abuildSlice Tryz.prog 37 1 [(0, (.int .i64 (.ofNat 7)))]) fun r68 => Heap.pushK h60 (.cells r68.1 true r68.2.2) fun h69 =>
        ob (aappend Tryz.prog h69 37 37 (.slice (Heap.next h34) 0 1 1 r56.2.1) (.slice (Heap.next h60) 0 1 1 r68.2.1)) fun r70 =>
        (some ⟨0, [yield_13, v14, v15, v16, v19, r70.1, v59, (.str 0 0), v17, v18, v19], ds11, r70.2⟩))
        ((some ⟨0, [yield_13, v14, v15, v16, v19, (.slice (Heap.next h34) 0 1 1 r56.2.1), v59, (.str 0 0), v17, v18, v19], ds11, h60⟩))) fun r67 => kcase (J.i r67) [kv11 (J.vs r67) fun yield_71 v72 v73 v74 i_75 kinds_76 to_77 text_78 v79 v80 v81 =>
        (some ⟨0, [yield_71, v72, v73, v74, i_75, kinds_76, to_77, text_78, v79, v80, v81], (J.ds r67), (J.h r67)⟩)]) (fun p61 h62 => (some ⟨2, [p61], ds11, h62⟩)))
       (ob (kbinI .eql v33 (.int .i64 (.ofNat 3))) fun v82 =>
       kif v82
        ((some ⟨1, [yield_13, v14, v15, v16, v17, v18, v19], ds11, h34⟩))
        ((some ⟨0, [yield_13, v14, v15, v16, v19, (.slice (Heap.next h12) 0 1 1 r25.2.1), v31, (.str 0 0), v17, v18, v19], ds11, h34⟩)))) fun r55 => kcase (J.i r55) [kv11 (J.vs r55) fun yield_83 v84 v85 v86 i_87 kinds_88 to_89 text_90 v91 v92 v93 =>
       (some ⟨0, [yield_83, v84, v85, v86, i_87, kinds_88, to_89, text_90, v91, v92, v93], (J.ds r55), (J.h r55)⟩),
      kv7 (J.vs r55) fun yield_94 v95 v96 v97 v98 v99 v100 =>
       (some ⟨1, [yield_94, v95, v96, v97, v98, v99, v100], (J.ds r55), (J.h r55)⟩),
      kv1 (J.vs r55) fun p101 => (some ⟨2, [p101], (J.ds r55), (J.h r55)⟩)])) fun r38 => kcase (J.i r38) [kv11 (J.vs r38) fun yield_102 v103 v104 v105 i_106 kinds_107 to_108 text_109 v110 v111 v112 =>
      ob (klenL to_108) fun v113 =>
      ob (iterD (fun vs114 ds115 h116 => kv13 vs114 fun yield_117 v118 v119 v120 i_121 kinds_122 text_123 v124 v125 v126 v127 v128 v129 =>
       ob (kbinI .lss v129 v128) fun v130 =>
       kif v130
        (ob (kia 1 v127 v129) fun v131 =>
        ob (kload h116 v131) fun v132 =>
        ob (klenL kinds_122) fun v133 =>
        ob (iterD (fun vs134 ds135 h136 => kv17 vs134 fun yield_137 v138 v139 v140 i_141 kinds_142 text_143 n_144 v145 v146 v147 v148 v149 v150 v151 v152 v153 =>
         ob (kbinI .lss v153 v152) fun v154 =>
         kif v154
          (ob (kia 1 v151 v153) fun v155 =>
          ob (kload h136 v155) fun v156 =>
          ob (abuild Tryz.prog 300 [(0, v156), (2, n_144), (5, i_141), (7, text_143)]) fun v157 =>
          ob (D yield_137 [v157] h136) fun r158 => kres r158 (fun v159 h160 =>
          ob (aun .not v159) fun v163 =>
          kif v163
           ((some ⟨2, [], ds135, h160⟩))
           (ob (kbinI .add v153 (.int .i64 (.ofNat 1))) fun v164 =>
           (some ⟨0, [yield_137, v138, v139, v140, i_141, kinds_142, text_143, n_144, v145, v146, v147, v148, v149, v150, v151, v152, v164], ds135, h160⟩))) (fun p161 h162 => (some ⟨3, [p161], ds135, h162⟩)))
          ((some ⟨1, [yield_137, v138, v139, v140, i_141, kinds_142, text_143, v145, v146, v147, v148, v149, v150], ds135, h136⟩))) rounds [yield_117, v118, v119, v120, i_121, kinds_122, text_123, v132, v124, v125, v126, v127, v128, v129, kinds_122, v133, (.int .i64 (.ofNat 0))] ds115 h116) fun r165 => kcase (J.i r165) [kv13 (J.vs r165) fun yield_166 v167 v168 v169 i_170 kinds_171 text_172 v173 v174 v175 v176 v177 v178 =>
         ob (kbinI .add v178 (.int .i64 (.ofNat 1))) fun v179 =>
         (some ⟨0, [yield_166, v167, v168, v169, i_170, kinds_171, text_172, v173, v174, v175, v176, v177, v179], (J.ds r165), (J.h r165)⟩),
        kv0 (J.vs r165) ((some ⟨2, [], (J.ds r165), (J.h r165)⟩)),
        kv1 (J.vs r165) fun p180 => (some ⟨3, [p180], (J.ds r165), (J.h r165)⟩)])
        ((some ⟨1, [yield_117, v118, v119, v120, v124, v125, v126], ds115, h116⟩))) rounds [yield_102, v103, v104, v105, i_106, kinds_107, text_109, v110, v111, v112, to_108, v113, (.int .i64 (.ofNat 0))] (J.ds r38) (J.h r38)) fun r181 => kcase (J.i r181) [kv7 (J.vs r181) fun yield_182 v183 v184 v185 v186 v187 v188 =>
       (some ⟨0, [yield_182, v183, v184, v185, v186, v187, v188], (J.ds r181), (J.h r181)⟩),
      kv0 (J.vs r181) ((some ⟨1, [], (J.ds r181), (J.h r181)⟩)),
      kv1 (J.vs r181) fun p189 => (some ⟨2, [p189], (J.ds r181), (J.h r181)⟩)],
     kv7 (J.vs r38) fun yield_190 v191 v192 v193 v194 v195 v196 =>
      (some ⟨0, [yield_190, v191, v192, v193, v194, v195, v196], (J.ds r38), (J.h r38)⟩),
     kv1 (J.vs r38) fun p197 => (some ⟨2, [p197], (J.ds r38), (J.h r38)⟩)]) (fun p35 h36 => (some ⟨2, [p35], ds11, h36⟩))))) fun r21 => kcase (J.i r21) [kv7 (J.vs r21) fun yield_198 v199 v200 v201 v202 v203 v204 =>
    ob (kbinI .add v204 (.int .i64 (.ofNat 1))) fun v205 =>
    (some ⟨0, [yield_198, v199, v200, v201, v202, v203, v205], (J.ds r21), (J.h r21)⟩),
   kv0 (J.vs r21) ((some ⟨2, [], (J.ds r21), (J.h r21)⟩)),
   kv1 (J.vs r21) fun p206 => (some ⟨3, [p206], (J.ds r21), (J.h r21)⟩)])
   ((some ⟨1, [], ds11, h12⟩))) rounds [yield_1, v2, v3, v4, v8, v9, (.int .i64 (.ofNat 0))] [] h) fun r207 => kcase (J.i r207) [kv0 (J.vs r207) ((dleave (fun h208 => (some (false, (.tuple []), h208))) (J.ds r207) (J.h r207))),
 kv0 (J.vs r207) ((dleave (fun h209 => (some (false, (.tuple []), h209))) (J.ds r207) (J.h r207))),
 kv1 (J.vs r207) fun p210 => (kds (J.ds r207) (some (true, p210, (J.h r207))))]
theorem F297_ok {S : FS} {D : FD} (hS : SpecsOK Tryz.prog S) (hD : DynOK Tryz.prog D) : SpecOK Tryz.prog 297 (F297 S D) :=
  SpecOK.of (c := match Tryz.f297.body with | some c => c | none => .skip) (by kernel_rfl) hS hD ⟨Tryz.func297, rfl, by decide⟩
    (.seq .n (.one (.loop [0, 1, 2, 3, 17, 18, 19] [(.exit 0, []), (.ret, []), (.pan, [])] (.seq .n (.seq (.dup .n .n) (.seq (.join [(.norm, [0, 1, 2, 3, 17, 18, 19]), (.ret, []), (.pan, [])] (.one (.seq .n (.seq (.seq .n (.dup .n .n)) (.seq .n (.seq (.seq .n (.one (.seq .n (.join [(.norm, [0, 1, 2, 3, 5, 7, 8, 9, 17, 18, 19]), (.exit 1, [0, 1, 2, 3, 17, 18, 19]), (.pan, [])] (.dup .n (.seq .n (.join [(.norm, [0, 1, 2, 3, 5, 7, 8, 9, 17, 18, 19]), (.exit 1, [0, 1, 2, 3, 17, 18, 19]), (.pan, [])] (.dup (.seq .n (.seq .n (.join [(.norm, [0, 1, 2, 3, 5, 7, 8, 9, 17, 18, 19])] (.dup .n .n)))) (.seq .n (.dup .n .n)))))))))) (.seq .n (.one (.loop [0, 1, 2, 3, 5, 7, 9, 17, 18, 19, 58, 59, 60] [(.exit 3, [0, 1, 2, 3, 17, 18, 19]), (.ret, []), (.pan, [])] (.seq .n (.seq (.dup .n .n) (.seq (.one (.seq .n (.seq .n (.one (.loop [0, 1, 2, 3, 5, 7, 9, 11, 17, 18, 19, 58, 59, 60, 64, 65, 66] [(.exit 5, [0, 1, 2, 3, 5, 7, 9, 17, 18, 19, 58, 59, 60]), (.ret, []), (.pan, [])] (.seq .n (.seq (.dup .n .n) (.seq (.one (.seq .n (.seq .n (.dup .n .n)))) .n)))))))) .n)))))))))))) .n)))))) 4 (fun args h => by kernel_rfl)
/-- (*roundhouse/tally.Tally).Missing -/
noncomputable def F298 (S : FS) (D : FD) (args : List AV) (h : Heap) : Option (Bool × AV × Heap) :=
 kv1 args fun t_1 =>
 ob (kbinO Tryz.prog .eql 119 true t_1 AV.nilptr) fun v2 =>
 kif v2
  ((some (false, AV.nilslice, h)))
  (ob (S 41 [t_1] h) fun r3 => kres r3 (fun v4 h5 =>
  ob (kbinI .eql v4 (.int .i64 (.ofNat 0))) fun v8 =>
  kif v8
   (ob (knil t_1) fun v9 =>
   ob (kfa 0 v9) fun v10 =>
   ob (kload h5 v10) fun v11 =>
   ob (knil t_1) fun v12 =>
   ob (kfa 1 v12) fun v13 =>
   ob (kload h5 v13) fun v14 =>
   ob (S 76 [v11, v14] h5) fun r15 => kres r15 (fun v16 h17 =>
   (some (false, v16, h17))) (fun p18 h19 => (some (true, p18, h19))))
   (ob (S 41 [t_1] h5) fun r20 => kres r20 (fun v21 h22 =>
   ob (kbinI .eql v21 (.int .i64 (.ofNat 1))) fun v25 =>
   kif v25
    (ob (knil t_1) fun v26 =>
    ob (kfa 0 v26) fun v27 =>
    ob (kload h22 v27) fun v28 =>
    ob (knil t_1) fun v29 =>
    ob (kfa 2 v29) fun v30 =>
    ob (kload h22 v30) fun v31 =>
    ob (S 77 [v28, v31] h22) fun r32 => kres r32 (fun v33 h34 =>
    (some (false, v33, h34))) (fun p35 h36 => (some (true, p35, h36))))
    ((some (false, AV.nilslice, h22)))) (fun p23 h24 => (some (true, p23, h24))))) (fun p6 h7 => (some (true, p6, h7))))
theorem F298_ok {S : FS} {D : FD} (hS : SpecsOK Tryz.prog S) (hD : DynOK Tryz.prog D) : SpecOK Tryz.prog 298 (F298 S D) :=
  SpecOK.of (c := match Tryz.f298.body with | some c => c | none => .skip) (by kernel_rfl) hS hD ⟨Tryz.func298, rfl, by decide⟩
    (.seq .n (.seq (.one (.seq .n (.dup (.seq .n .n) (.seq .n (.dup (.seq .n .n) (.seq .n (.dup (.seq .n .n) .n))))))) (.seq .n .n))) 1 (fun args h => by kernel_rfl)
/-- (*roundhouse/ctl.job).order -/
noncomputable def F299 (S : FS) (D : FD) (args : List AV) (h : Heap) : Option (Bool × AV × Heap) :=
 kv4 args fun x_1 key_2 step_3 now_4 =>
 ob (knil x_1) fun v5 =>
 ob (kfa 0 v5) fun v6 =>
 ob (kfa 1 v6) fun v7 =>
 ob (kload h v7) fun v8 =>
 ob (kia 5 v8 step_3) fun v9 =>
 ob (kloadN 5 h v9) fun v10 =>
 Heap.pushK h (.cells [(.int .i64 (.ofNat 0)), (.int .i64 (.ofNat 0)), (.int .i64 (.ofNat 0)), (.int .i64 (.ofNat 0)), AV.nilslice] true 64) fun h11 =>
 ob (kstore 5 (.ptr (Heap.next h) 0) v10 h11) fun h12 =>
 ob (knil x_1) fun v13 =>
 ob (kfa 2 v13) fun v14 =>
 ob (kload h12 v14) fun v15 =>
 ob (knil x_1) fun v16 =>
 ob (kfa 3 v16) fun v17 =>
 ob (kload h12 v17) fun v18 =>
 ob (kbinI .add now_4 (.int .i64 (.ofNat 8))) fun v19 =>
 ob (knil x_1) fun v20 =>
 ob (kfa 0 v20) fun v21 =>
 ob (kfa 0 v21) fun v22 =>
 ob (kload h12 v22) fun v23 =>
 ob (kfa 0 (.ptr (Heap.next h) 0)) fun v24 =>
 ob (kload h12 v24) fun v25 =>
 ob (kfa 1 (.ptr (Heap.next h) 0)) fun v26 =>
 ob (kload h12 v26) fun v27 =>
 ob (kbinI .mul v25 v27) fun v28 =>
 ob (abuild Tryz.prog 413 [(0, v15), (1, v18), (2, step_3), (3, now_4), (4, v19), (5, v23), (6, v28)]) fun v29 =>
 kfree h12 (Heap.pushK h12 (.cells [(.int .i64 (.ofNat 0)), (.int .i64 (.ofNat 0)), (.int .i64 (.ofNat 0)), (.int .i64 (.ofNat 0)), (.int .i64 (.ofNat 0)), AV.nilslice, (.int .i64 (.ofNat 0))] true 413) fun h30 =>
 ob (kstore 7 (.ptr (Heap.next h12) 0) v29 h30) fun h31 =>
 ob (kloadN 7 h31 (.ptr (Heap.next h12) 0)) fun v32 =>
 ob (kfa 0 (.ptr (Heap.next h) 0)) fun v33 =>
 ob (kload h31 v33) fun v34 =>
 ob (kfa 1 (.ptr (Heap.next h) 0)) fun v35 =>
 ob (kload h31 v35) fun v36 =>
 ob (kfa 2 (.ptr (Heap.next h) 0)) fun v37 =>
 ob (kload h31 v37) fun v38 =>
 ob (kfa 3 (.ptr (Heap.next h) 0)) fun v39 =>
 ob (kload h31 v39) fun v40 =>
 ob (S 356 [key_2, v32] h31) fun r41 => kres r41 (fun v42 h43 =>
 kre (kload h43 v39) v40 (kre (kload h43 v37) v38 (kre (kload h43 v35) v36 (kre (kload h43 v33) v34 (ob (abuild Tryz.prog 409 [(0, v42), (1, v34), (2, v36), (3, v38), (4, v40)]) fun v46 =>
 ob (S 355 [v46] h43) fun r47 => kres r47 (fun v48 h49 =>
 (some (false, v48, h49))) (fun p50 h51 => (some (true, p50, h51)))))))) (fun p44 h45 => none))
theorem F299_ok {S : FS} {D : FD} (hS : SpecsOK Tryz.prog S) (hD : DynOK Tryz.prog D) : SpecOK Tryz.prog 299 (F299 S D) :=
  SpecOK.of (c := match Tryz.f299.body with | some c => c | none => .skip) (by kernel_rfl) hS hD ⟨Tryz.func299, rfl, by decide⟩
    (.seq .n (.seq .n (.seq .n (.seq .n .n)))) 4 (fun args h => by kernel_rfl)
/-- roundhouse/wire.node -/
noncomputable def F300 (S : FS) (D : FD) (args : List AV) (h : Heap) : Option (Bool × AV × Heap) :=
 kv1 args fun n_1 =>
 ob (kbinI .geq n_1 (.int .i64 (.negSucc 0))) fun v2 =>
 ob (kgv true v2 (some n_1)) fun v3 =>
 ob (kgv true v2 (kbinI .lss v3 (.int .i64 (.ofNat 16)))) fun v4 =>
 ob (kpick v2 v4 (.bool false)) fun v5 =>
 (some (false, v5, h))
theorem F300_ok {S : FS} {D : FD} (hS : SpecsOK Tryz.prog S) (hD : DynOK Tryz.prog D) : SpecOK Tryz.prog 300 (F300 S D) :=
  SpecOK.of (c := match Tryz.f300.body with | some c => c | none => .skip) (by kernel_rfl) hS hD ⟨Tryz.func300, rfl, by decide⟩
    (.seq .n (.seq .n .n)) 1 (fun args h => by kernel_rfl)
/-- slices.Delete[[]string,string] -/
noncomputable def F302 (S : FS) (D : FD) (args : List AV) (h : Heap) : Option (Bool × AV × Heap) :=
 kv3 args fun s_1 i_2 j_3 =>
 ob (klenL s_1) fun v4 =>
 ob (aslice Tryz.prog 187 s_1 (some i_2) (some j_3) (some v4)) fun v5 =>
 ob (kbinI .eql i_2 j_3) fun v6 =>
 kif v6
  ((some (false, s_1, h)))
  (ob (klenL s_1) fun v7 =>
  ob (aslice Tryz.prog 187 s_1 none (some i_2) none) fun v8 =>
  ob (aslice Tryz.prog 187 s_1 (some j_3) none none) fun v9 =>
  ob (aappend Tryz.prog h 187 187 v8 v9) fun r10 =>
  ob (klenL r10.1) fun v11 =>
  ob (aslice Tryz.prog 187 r10.1 (some v11) (some v7) none) fun v12 =>
  ob (aclear Tryz.prog r10.2 187 v12) fun h13 =>
  (some (false, r10.1, h13)))
theorem F302_ok {S : FS} {D : FD} (hS : SpecsOK Tryz.prog S) (hD : DynOK Tryz.prog D) : SpecOK Tryz.prog 302 (F302 S D) :=
  SpecOK.of (c := match Tryz.f302.body with | some c => c | none => .skip) (by kernel_rfl) hS hD ⟨Tryz.func302, rfl, by decide⟩
    (.seq .n (.seq .n (.seq (.seq .n (.dup (.seq .n .n) .n)) (.seq .n (.seq .n (.seq .n (.seq .n .n))))))) 3 (fun args h => by kernel_rfl)
/-- slices.Clone[[]string,string] -/
noncomputable def F303 (S : FS) (D : FD) (args : List AV) (h : Heap) : Option (Bool × AV × Heap) :=
 kv1 args fun s_1 =>
 ob (kbinO Tryz.prog .eql 187 true s_1 AV.nilslice) fun v2 =>
 kif v2
  ((some (false, AV.nilslice, h)))
  (ob (abuildSlice Tryz.prog 187 0 []) fun r3 => Heap.pushK h (.cells r3.1 true r3.2.2) fun h4 =>
  ob (aappend Tryz.prog h4 187 187 (.slice (Heap.next h) 0 0 0 r3.2.1) s_1) fun r5 =>
  (some (false, r5.1, r5.2)))
theorem F303_ok {S : FS} {D : FD} (hS : SpecsOK Tryz.prog S) (hD : DynOK Tryz.prog D) : SpecOK Tryz.prog 303 (F303 S D) :=
  SpecOK.of (c := match Tryz.f303.body with | some c => c | none => .skip) (by kernel_rfl) hS hD ⟨Tryz.func303, rfl, by decide⟩
    (.seq .n (.seq (.seq .n (.dup (.seq .n .n) .n)) (.seq .n .n))) 1 (fun args h => by kernel_rfl)
/-- (*roundhouse/tally.Tally).Vote -/
noncomputable def F304 (S : FS) (D : FD) (args : List AV) (h : Heap) : Option (Bool × AV × Heap) :=
 kv3 args fun t_1 node_2 yes_3 =>
 ob (kbinO Tryz.prog .eql 119 true t_1 AV.nilptr) fun v4 =>
 kif v4
  ((some (false, (.int .i64 (.ofNat 1)), h)))
  (ob (knil t_1) fun v5 =>
  ob (kfa 1 v5) fun v6 =>
  ob (kload h v6) fun v7 =>
  ob (S 41 [t_1] h) fun r8 => kres r8 (fun v9 h10 =>
  kre (kload h10 v6) v7 (ob (kbinI .eql v9 (.int .i64 (.ofNat 0))) fun v13 =>
  ob (S 358 [v7, node_2, yes_3, v13] h10) fun r14 => kres r14 (fun v15 h16 =>
  (some (false, v15, h16))) (fun p17 h18 => (some (true, p17, h18))))) (fun p11 h12 => none))
theorem F304_ok {S : FS} {D : FD} (hS : SpecsOK Tryz.prog S) (hD : DynOK Tryz.prog D) : SpecOK Tryz.prog 304 (F304 S D) :=
  SpecOK.of (c := match Tryz.f304.body with | some c => c | none => .skip) (by kernel_rfl) hS hD ⟨Tryz.func304, rfl, by decide⟩
    (.seq .n (.seq (.seq .n (.dup (.seq .n .n) .n)) (.seq .n .n))) 3 (fun args h => by kernel_rfl)
/-- (*roundhouse/tally.Tally).Exit -/
noncomputable def F305 (S : FS) (D : FD) (args : List AV) (h : Heap) : Option (Bool × AV × Heap) :=
 kv3 args fun t_1 node_2 code_3 =>
 ob (kbinO Tryz.prog .eql 119 true t_1 AV.nilptr) fun v4 =>
 ob (kgv false v4 (some code_3)) fun v5 =>
 ob (kgv false v4 (kbinI .lss v5 (.int .i64 (.ofNat 0)))) fun v6 =>
 ob (kpick v4 (.bool true) v6) fun v7 =>
 ob (kgv false v7 (some code_3)) fun v8 =>
 ob (kgv false v7 (kbinI .gtr v8 (.int .i64 (.ofNat 255)))) fun v9 =>
 ob (kpick v7 (.bool true) v9) fun v10 =>
 kif v10
  ((some (false, (.int .i64 (.ofNat 1)), h)))
  (ob (knil t_1) fun v11 =>
  ob (kfa 2 v11) fun v12 =>
  ob (kload h v12) fun v13 =>
  ob (S 41 [t_1] h) fun r14 => kres r14 (fun v15 h16 =>
  kre (kload h16 v12) v13 (ob (kbinI .eql v15 (.int .i64 (.ofNat 1))) fun v19 =>
  ob (S 359 [v13, node_2, code_3, v19] h16) fun r20 => kres r20 (fun v21 h22 =>
  (some (false, v21, h22))) (fun p23 h24 => (some (true, p23, h24))))) (fun p17 h18 => none))
theorem F305_ok {S : FS} {D : FD} (hS : SpecsOK Tryz.prog S) (hD : DynOK Tryz.prog D) : SpecOK Tryz.prog 305 (F305 S D) :=
  SpecOK.of (c := match Tryz.f305.body with | some c => c | none => .skip) (by kernel_rfl) hS hD ⟨Tryz.func305, rfl, by decide⟩
    (.seq .n (.seq (.seq .n (.dup (.seq .n .n) .n)) (.seq .n .n))) 3 (fun args h => by kernel_rfl)
/-- roundhouse/node.of -/
noncomputable def F306 (S : FS) (D : FD) (args : List AV) (h : Heap) : Option (Bool × AV × Heap) :=
 kv3 args fun id_1 s_2 m_3 =>
 knt s_2 (Heap.pushK h (.cells (AV.cells s_2) true 85) fun h4 =>
 knt m_3 (Heap.pushK h4 (.cells (AV.cells m_3) true 300) fun h5 =>
 ob (kloadN 8 h5 (.ptr (Heap.next h4) 0)) fun v6 =>
 ob (kloadN 3 h5 (.ptr (Heap.next h) 0)) fun v7 =>
 ob (abuild Tryz.prog 407 [(0, v6), (1, id_1), (2, v7)]) fun v8 =>
 knt v8 (Heap.pushK h5 (.cells (AV.cells v8) true 407) fun h9 =>
 ob (kloadN 3 h9 (.ptr (Heap.next h) 0)) fun v10 =>
 ob (kfa 3 (.ptr (Heap.next h4) 0)) fun v11 =>
 ob (kload h9 v11) fun v12 =>
 ob (kfa 4 (.ptr (Heap.next h4) 0)) fun v13 =>
 ob (kload h9 v13) fun v14 =>
 ob (S 277 [v10, v12, v14] h9) fun r15 => kres r15 (fun v16 h17 =>
 ob (aextract v16 0) fun v20 =>
 ob (aextract v16 1) fun v21 =>
 ob (knil (.ptr (Heap.next h5) 0)) fun v22 =>
 ob (kfa 12 v22) fun v23 =>
 ob (kstore 3 v23 v20 h17) fun h24 =>
 ob (knil (.ptr (Heap.next h5) 0)) fun v25 =>
 ob (kfa 15 v25) fun v26 =>
 ob (kstore 1 v26 v21 h24) fun h27 =>
 ob (kloadN 3 h27 (.ptr (Heap.next h) 0)) fun v28 =>
 ob (kfa 3 (.ptr (Heap.next h4) 0)) fun v29 =>
 ob (kload h27 v29) fun v30 =>
 ob (kfa 4 (.ptr (Heap.next h4) 0)) fun v31 =>
 ob (kload h27 v31) fun v32 =>
 ob (kfa 5 (.ptr (Heap.next h4) 0)) fun v33 =>
 ob (kload h27 v33) fun v34 =>
 ob (S 259 [v28, v30, v32, v34] h27) fun r35 => kres r35 (fun v36 h37 =>
 ob (aextract v36 0) fun v40 =>
 ob (aextract v36 1) fun v41 =>
 ob (knil (.ptr (Heap.next h5) 0)) fun v42 =>
 ob (kfa 16 v42) fun v43 =>
 ob (kstore 6 v43 v40 h37) fun h44 =>
 ob (knil (.ptr (Heap.next h5) 0)) fun v45 =>
 ob (kfa 22 v45) fun v46 =>
 ob (kstore 1 v46 v41 h44) fun h47 =>
 (some (false, (.ptr (Heap.next h5) 0), h47))) (fun p38 h39 => (some (true, p38, h39)))) (fun p18 h19 => (some (true, p18, h19))))))
theorem F306_ok {S : FS} {D : FD} (hS : SpecsOK Tryz.prog S) (hD : DynOK Tryz.prog D) : SpecOK Tryz.prog 306 (F306 S D) :=
  SpecOK.of (c := match Tryz.f306.body with | some c => c | none => .skip) (by kernel_rfl) hS hD ⟨Tryz.func306, rfl, by decide⟩
    (.seq .n (.seq .n (.seq .n (.seq .n (.seq .n .n))))) 3 (fun args h => by kernel_rfl)
/-- roundhouse/node.in -/
noncomputable def F307 (S : FS) (D : FD) (args : List AV) (h : Heap) : Option (Bool × AV × Heap) :=
 kv3 args fun n_1 least_2 most_3 =>
 ob (kbinI .geq n_1 least_2) fun v4 =>
 ob (kgv true v4 (some n_1)) fun v5 =>
 ob (kgv true v4 (some most_3)) fun v6 =>
 ob (kgv true v4 (kbinI .leq v5 v6)) fun v7 =>
 ob (kpick v4 v7 (.bool false)) fun v8 =>
 (some (false, v8, h))
theorem F307_ok {S : FS} {D : FD} (hS : SpecsOK Tryz.prog S) (hD : DynOK Tryz.prog D) : SpecOK Tryz.prog 307 (F307 S D) :=
  SpecOK.of (c := match Tryz.f307.body with | some c => c | none => .skip) (by kernel_rfl) hS hD ⟨Tryz.func307, rfl, by decide⟩
    (.seq .n (.seq .n .n)) 3 (fun args h => by kernel_rfl)
/-- (*roundhouse/node.asked).up -/
noncomputable def F308 (S : FS) (D : FD) (args : List AV) (h : Heap) : Option (Bool × AV × Heap) :=
 kv1 args fun x_1 =>
 ob (knil x_1) fun v2 =>
 ob (kfa 15 v2) fun v3 =>
 ob (kload h v3) fun v4 =>
 ob (kgv true v4 (some x_1)) fun v5 =>
 ob (kgv true v4 (knil v5)) fun v6 =>
 ob (kgv true v4 (kfa 12 v6)) fun v7 =>
 ob (kgv true v4 (kfa 2 v7)) fun v8 =>
 ob (kgv true v4 (kload h v8)) fun v9 =>
 ob (kgv true v4 (kbinI .eql v9 (.int .i64 (.ofNat 0)))) fun v10 =>
 ob (kpick v4 v10 (.bool false)) fun v11 =>
 (some (false, v11, h))
theorem F308_ok {S : FS} {D : FD} (hS : SpecsOK Tryz.prog S) (hD : DynOK Tryz.prog D) : SpecOK Tryz.prog 308 (F308 S D) :=
  SpecOK.of (c := match Tryz.f308.body with | some c => c | none => .skip) (by kernel_rfl) hS hD ⟨Tryz.func308, rfl, by decide⟩
    (.seq .n (.seq .n .n)) 1 (fun args h => by kernel_rfl)
/-- roundhouse/agent.Unpack -/
noncomputable def F309 (S : FS) (D : FD) (args : List AV) (h : Heap) : Option (Bool × AV × Heap) :=
 kv1 args fun s_1 =>
 Heap.pushK h (.cells [(.str 0 0), (.int .i64 (.ofNat 0)), (.int .i64 (.ofNat 0)), (.int .i64 (.ofNat 0)), (.int .i64 (.ofNat 0))] true 409) fun h2 =>
 ob (S 106 [s_1] h2) fun r3 => kres r3 (fun v4 h5 =>
 ob (S 207 [v4] h5) fun r8 => kres r8 (fun v9 h10 =>
 ob (S 107 [v4] h10) fun r13 => kres r13 (fun v14 h15 =>
 ob (S 107 [v4] h15) fun r18 => kres r18 (fun v19 h20 =>
 ob (S 107 [v4] h20) fun r23 => kres r23 (fun v24 h25 =>
 ob (S 107 [v4] h25) fun r28 => kres r28 (fun v29 h30 =>
 ob (abuild Tryz.prog 409 [(0, v9), (1, v14), (2, v19), (3, v24), (4, v29)]) fun v33 =>
 Heap.pushK h30 (.cells [(.str 0 0), (.int .i64 (.ofNat 0)), (.int .i64 (.ofNat 0)), (.int .i64 (.ofNat 0)), (.int .i64 (.ofNat 0))] true 409) fun h34 =>
 ob (kstore 5 (.ptr (Heap.next h30) 0) v33 h34) fun h35 =>
 ob (S 109 [v4] h35) fun r36 => kres r36 (fun v37 h38 =>
 ob (aextract v37 0) fun v41 =>
 ob (aextract v37 1) fun v42 =>
 ob (kbinI .neq v41 (.int .i64 (.ofNat 0))) fun v43 =>
 kif v43
  (ob (abuild Tryz.prog 409 []) fun v44 =>
  ob (kstore 5 (.ptr (Heap.next h) 0) v44 h38) fun h45 =>
  ob (kloadN 5 h45 (.ptr (Heap.next h) 0)) fun v46 => (some (false, (.tuple [v46, v41]), h45)))
  (ob (kloadN 5 h38 (.ptr (Heap.next h30) 0)) fun v47 =>
  ob (S 360 [v47] h38) fun r48 => kres r48 (fun v49 h50 =>
  ob (aun .not v49) fun v53 =>
  kif v53
   (ob (abuild Tryz.prog 409 []) fun v54 =>
   ob (kstore 5 (.ptr (Heap.next h) 0) v54 h50) fun h55 =>
   ob (kloadN 5 h55 (.ptr (Heap.next h) 0)) fun v56 => (some (false, (.tuple [v56, (.int .i64 (.ofNat 5))]), h55)))
   (ob (kloadN 5 h50 (.ptr (Heap.next h30) 0)) fun v57 =>
   ob (kstore 5 (.ptr (Heap.next h) 0) v57 h50) fun h58 =>
   ob (kloadN 5 h58 (.ptr (Heap.next h) 0)) fun v59 => (some (false, (.tuple [v59, (.int .i64 (.ofNat 0))]), h58)))) (fun p51 h52 => (some (true, p51, h52))))) (fun p39 h40 => (some (true, p39, h40)))) (fun p31 h32 => (some (true, p31, h32)))) (fun p26 h27 => (some (true, p26, h27)))) (fun p21 h22 => (some (true, p21, h22)))) (fun p16 h17 => (some (true, p16, h17)))) (fun p11 h12 => (some (true, p11, h12)))) (fun p6 h7 => (some (true, p6, h7)))
theorem F309_ok {S : FS} {D : FD} (hS : SpecsOK Tryz.prog S) (hD : DynOK Tryz.prog D) : SpecOK Tryz.prog 309 (F309 S D) :=
  SpecOK.of (c := match Tryz.f309.body with | some c => c | none => .skip) (by kernel_rfl) hS hD ⟨Tryz.func309, rfl, by decide⟩
    (.seq .n (.seq .n (.seq .n (.seq (.seq .n (.seq .n (.dup (.seq .n .n) .n))) (.seq (.seq .n (.dup (.seq .n .n) .n)) (.seq .n .n)))))) 1 (fun args h => by kernel_rfl)
/-- roundhouse/cred.Open -/
noncomputable def F310 (S : FS) (D : FD) (args : List AV) (h : Heap) : Option (Bool × AV × Heap) :=
 kv2 args fun key_1 s_2 =>
 Heap.pushK h (.cells [(.int .i64 (.ofNat 0)), (.int .i64 (.ofNat 0)), (.int .i64 (.ofNat 0)), (.int .i64 (.ofNat 0)), (.int .i64 (.ofNat 0)), AV.nilslice, (.int .i64 (.ofNat 0))] true 413) fun h3 =>
 ob (klenS s_2) fun v4 =>
 ob (kbinI .sub v4 (.int .i64 (.ofNat 32))) fun v5 =>
 ob (kbinI .lss v5 (.int .i64 (.ofNat 0))) fun v6 =>
 kif v6
  (ob (abuild Tryz.prog 413 []) fun v7 =>
  ob (kstore 7 (.ptr (Heap.next h) 0) v7 h3) fun h8 =>
  ob (kloadN 7 h8 (.ptr (Heap.next h) 0)) fun v9 => (some (false, (.tuple [v9, (.int .i64 (.ofNat 2))]), h8)))
  (ob (aslice Tryz.prog 9 s_2 none (some v5) none) fun v10 =>
  ob (aslice Tryz.prog 9 s_2 (some v5) none none) fun v11 =>
  ob (S 362 [key_1, v10] h3) fun r12 => kres r12 (fun v13 h14 =>
  ob (S 361 [v13, v11] h14) fun r17 => kres r17 (fun v18 h19 =>
  ob (aun .not v18) fun v22 =>
  kif v22
   (ob (abuild Tryz.prog 413 []) fun v23 =>
   ob (kstore 7 (.ptr (Heap.next h) 0) v23 h19) fun h24 =>
   ob (kloadN 7 h24 (.ptr (Heap.next h) 0)) fun v25 => (some (false, (.tuple [v25, (.int .i64 (.ofNat 7))]), h24)))
   (ob (aslice Tryz.prog 9 s_2 none (some v5) none) fun v26 =>
   ob (S 363 [v26] h19) fun r27 => kres r27 (fun v28 h29 =>
   ob (aextract v28 0) fun v32 =>
   ob (aextract v28 1) fun v33 =>
   ob (kstore 7 (.ptr (Heap.next h) 0) v32 h29) fun h34 =>
   ob (kloadN 7 h34 (.ptr (Heap.next h) 0)) fun v35 => (some (false, (.tuple [v35, v33]), h34))) (fun p30 h31 => (some (true, p30, h31))))) (fun p20 h21 => (some (true, p20, h21)))) (fun p15 h16 => none))
theorem F310_ok {S : FS} {D : FD} (hS : SpecsOK Tryz.prog S) (hD : DynOK Tryz.prog D) : SpecOK Tryz.prog 310 (F310 S D) :=
  SpecOK.of (c := match Tryz.f310.body with | some c => c | none => .skip) (by kernel_rfl) hS hD ⟨Tryz.func310, rfl, by decide⟩
    (.seq .n (.seq .n (.seq (.one (.seq .n (.dup (.seq .n .n) (.seq .n (.dup (.seq .n .n) .n))))) (.seq .n .n)))) 2 (fun args h => by kernel_rfl)
/-- roundhouse/cred.Allows -/
noncomputable def F311 (S : FS) (D : FD) (args : List AV) (h : Heap) : Option (Bool × AV × Heap) :=
 kv2 args fun c_1 a_2 =>
 knt c_1 (Heap.pushK h (.cells (AV.cells c_1) true 413) fun h3 =>
 knt a_2 (Heap.pushK h3 (.cells (AV.cells a_2) true 418) fun h4 =>
 ob (abuild Tryz.prog 469 [(0, (.int .i64 (.ofNat 1))), (1, (.func 364 [(.ptr (Heap.next h) 0)]))]) fun v5 =>
 ob (abuild Tryz.prog 469 [(0, (.int .i64 (.ofNat 9))), (1, (.func 366 [(.ptr (Heap.next h) 0), (.ptr (Heap.next h3) 0)]))]) fun v6 =>
 ob (abuild Tryz.prog 469 [(0, (.int .i64 (.ofNat 9))), (1, (.func 367 [(.ptr (Heap.next h) 0), (.ptr (Heap.next h3) 0)]))]) fun v7 =>
 ob (abuild Tryz.prog 469 [(0, (.int .i64 (.ofNat 8))), (1, (.func 369 [(.ptr (Heap.next h3) 0), (.ptr (Heap.next h) 0)]))]) fun v8 =>
 ob (abuildSlice Tryz.prog 470 4 [(0, v5), (1, v6), (2, v7), (3, v8)]) fun r9 => Heap.pushK h4 (.cells r9.1 true r9.2.2) fun h10 =>
 ob (klenL (.slice (Heap.next h4) 0 4 4 r9.2.1)) fun v11 =>
 ob (iterD (fun vs12 ds13 h14 => kv3 vs12 fun v15 v16 v17 =>
  ob (kbinI .lss v17 v16) fun v18 =>
  kif v18
   (ob (kia 2 v15 v17) fun v19 =>
   ob (kloadN 2 h14 v19) fun v20 =>
   Heap.pushK h14 (.cells [(.int .i64 (.ofNat 0)), AV.nilfunc] true 469) fun h21 =>
   ob (kstore 2 (.ptr (Heap.next h14) 0) v20 h21) fun h22 =>
   ob (kfa 1 (.ptr (Heap.next h14) 0)) fun v23 =>
   ob (kload h22 v23) fun v24 =>
   ob (D v24 [] h22) fun r25 => kres r25 (fun v26 h27 =>
   ob (aun .not v26) fun v30 =>
   kif v30
    (ob (kfa 0 (.ptr (Heap.next h14) 0)) fun v31 =>
    ob (kload h27 v31) fun v32 =>
    (some ⟨2, [v32], ds13, h27⟩))
    (ob (kbinI .add v17 (.int .i64 (.ofNat 1))) fun v33 =>
    (some ⟨0, [v15, v16, v33], ds13, h27⟩))) (fun p28 h29 => (some ⟨3, [p28], ds13, h29⟩)))
   ((some ⟨1, [], ds13, h14⟩))) rounds [(.slice (Heap.next h4) 0 4 4 r9.2.1), v11, (.int .i64 (.ofNat 0))] [] h10) fun r34 => kcase (J.i r34) [kv0 (J.vs r34) ((dleave (fun h35 => (some (false, (.int .i64 (.ofNat 0)), h35))) (J.ds r34) (J.h r34))),
 kv1 (J.vs r34) fun v36 =>
  (dleave (fun h37 => (some (false, v36, h37))) (J.ds r34) (J.h r34)),
 kv1 (J.vs r34) fun p38 => (kds (J.ds r34) (some (true, p38, (J.h r34))))]))
theorem F311_ok {S : FS} {D : FD} (hS : SpecsOK Tryz.prog S) (hD : DynOK Tryz.prog D) : SpecOK Tryz.prog 311 (F311 S D) :=
  SpecOK.of (c := match Tryz.f311.body with | some c => c | none => .skip) (by kernel_rfl) hS hD ⟨Tryz.func311, rfl, by decide⟩
    (.seq .n (.seq (.seq .n (.one (.loop [15, 16, 17] [(.exit 0, []), (.ret, [4]), (.pan, [])] (.seq .n (.seq (.dup .n .n) (.seq (.one (.seq .n (.seq .n (.dup (.seq .n .n) .n)))) .n)))))) (.seq .n .n))) 2 (fun args h => by kernel_rfl)
/-- (*roundhouse/replay.Cache).Use -/
noncomputable def F312 (S : FS) (D : FD) (args : List AV) (h : Heap) : Option (Bool × AV × Heap) :=
 kv3 args fun c_1 x_2 now_3 =>
 knt x_2 (Heap.pushK h (.cells (AV.cells x_2) true 413) fun h4 =>
 knt now_3 (Heap.pushK h4 (.cells (AV.cells now_3) true 3) fun h5 =>
 ob (kbinO Tryz.prog .eql 87 true c_1 AV.nilptr) fun v6 =>
 ob (kgv false v6 (kloadN 7 h5 (.ptr (Heap.next h) 0))) fun v7 =>
 ob (kgc false v6 h5 (S 365 [v7] h5)) fun r8 => kres r8 (fun v9 h10 =>
 ob (kgv false v6 (kbinI .neq v9 (.int .i64 (.ofNat 0)))) fun v13 =>
 ob (kpick v6 (.bool true) v13) fun v14 =>
 kif v14
  ((some (false, (.int .i64 (.ofNat 1)), h10)))
  (ob (kfa 4 (.ptr (Heap.next h) 0)) fun v15 =>
  ob (kload h10 v15) fun v16 =>
  ob (kload h10 (.ptr (Heap.next h4) 0)) fun v17 =>
  ob (kbinI .leq v16 v17) fun v18 =>
  kif v18
   ((some (false, (.int .i64 (.ofNat 8)), h10)))
   (ob (kloadN 7 h10 (.ptr (Heap.next h) 0)) fun v19 =>
   ob (S 370 [c_1, v19] h10) fun r20 => kres r20 (fun v21 h22 =>
   kif v21
    ((some (false, (.int .i64 (.ofNat 11)), h22)))
    (ob (knil c_1) fun v25 =>
    ob (kfa 1 v25) fun v26 =>
    ob (kload h22 v26) fun v27 =>
    ob (S 371 [v27, (.func 372 [(.ptr (Heap.next h4) 0)])] h22) fun r28 => kres r28 (fun v29 h30 =>
    ob (knil c_1) fun v33 =>
    ob (kfa 1 v33) fun v34 =>
    ob (kload h30 v34) fun v35 =>
    ob (kloadN 7 h30 (.ptr (Heap.next h) 0)) fun v36 =>
    ob (S 373 [v36] h30) fun r37 => kres r37 (fun v38 h39 =>
    kre (kload h39 v34) v35 (ob (alookup Tryz.prog h39 279 v35 v38 true) fun v42 =>
    ob (aextract v42 0) fun v43 =>
    ob (aextract v42 1) fun v44 =>
    kif v44
     ((some (false, (.int .i64 (.ofNat 10)), h39)))
     (ob (knil c_1) fun v45 =>
     ob (kfa 1 v45) fun v46 =>
     ob (kload h39 v46) fun v47 =>
     ob (klenM h39 v47) fun v48 =>
     ob (knil c_1) fun v49 =>
     ob (kfa 0 v49) fun v50 =>
     ob (kload h39 v50) fun v51 =>
     ob (kbinI .eql v48 v51) fun v52 =>
     kif v52
      ((some (false, (.int .i64 (.ofNat 6)), h39)))
      (ob (knil c_1) fun v53 =>
      ob (kfa 1 v53) fun v54 =>
      ob (kload h39 v54) fun v55 =>
      ob (kloadN 7 h39 (.ptr (Heap.next h) 0)) fun v56 =>
      ob (kfa 4 (.ptr (Heap.next h) 0)) fun v57 =>
      ob (kload h39 v57) fun v58 =>
      ob (S 373 [v56] h39) fun r59 => kres r59 (fun v60 h61 =>
      kre (kload h61 v57) v58 (kre (kload h61 v54) v55 (ob (amapSet Tryz.prog h61 279 v55 v60 v58) fun h64 =>
      (some (false, (.int .i64 (.ofNat 0)), h64))))) (fun p62 h63 => none))))) (fun p40 h41 => none)) (fun p31 h32 => (some (true, p31, h32))))) (fun p23 h24 => (some (true, p23, h24)))))) (fun p11 h12 => (some (true, p11, h12)))))
theorem F312_ok {S : FS} {D : FD} (hS : SpecsOK Tryz.prog S) (hD : DynOK Tryz.prog D) : SpecOK Tryz.prog 312 (F312 S D) :=
  SpecOK.of (c := match Tryz.f312.body with | some c => c | none => .skip) (by kernel_rfl) hS hD ⟨Tryz.func312, rfl, by decide⟩
    (.seq .n (.seq (.one (.seq .n (.dup (.seq .n .n) (.seq .n (.dup (.seq .n .n) (.seq .n (.dup (.seq .n .n) .n))))))) (.seq .n (.seq (.seq .n (.seq .n (.dup (.seq .n .n) .n))) (.seq (.seq .n (.dup (.seq .n .n) .n)) (.seq .n (.seq .n .n))))))) 3 (fun args h => by kernel_rfl)
/-- (*roundhouse/pool.Pool).Reserve -/
noncomputable def F313 (S : FS) (D : FD) (args : List AV) (h : Heap) : Option (Bool × AV × Heap) :=
 kv3 args fun p_1 owner_2 w_3 =>
 knt w_3 (Heap.pushK h (.cells (AV.cells w_3) true 424) fun h4 =>
 ob (S 332 [p_1, owner_2] h4) fun r5 => kres r5 (fun v6 h7 =>
 ob (kbinI .neq v6 (.int .i64 (.ofNat 0))) fun v10 =>
 kif v10
  ((some (false, (.tuple [AV.nilslice, v6]), h7)))
  (ob (S 61 [p_1] h7) fun r11 => kres r11 (fun v12 h13 =>
  ob (kfa 0 (.ptr (Heap.next h) 0)) fun v16 =>
  ob (kstore 4 v16 v12 h13) fun h17 =>
  ob (knil p_1) fun v18 =>
  ob (kfa 0 v18) fun v19 =>
  ob (kloadN 2 h17 v19) fun v20 =>
  ob (kloadN 7 h17 (.ptr (Heap.next h) 0)) fun v21 =>
  ob (S 374 [v20, v21] h17) fun r22 => kres r22 (fun v23 h24 =>
  ob (aextract v23 0) fun v27 =>
  ob (aextract v23 1) fun v28 =>
  ob (kbinI .neq v28 (.int .i64 (.ofNat 0))) fun v29 =>
  kif v29
   ((some (false, (.tuple [AV.nilslice, v28]), h24)))
   (Heap.pushK h24 (.cells [(.int .u64 (.ofNat 0)), (.int .u64 (.ofNat 0)), (.int .u64 (.ofNat 0)), (.int .u64 (.ofNat 0)), (.bool false)] true 205) fun h30 =>
   ob (klenL v27) fun v31 =>
   ob (iterD (fun vs32 ds33 h34 => kv7 vs32 fun p_35 owner_36 masks_37 h_38 v39 v40 v41 =>
    ob (kbinI .lss v41 v40) fun v42 =>
    kif v42
     (ob (kia 4 v39 v41) fun v43 =>
     ob (kloadN 4 h34 v43) fun v44 =>
     Heap.pushK h34 (.cells [(.int .u64 (.ofNat 0)), (.int .u64 (.ofNat 0)), (.int .u64 (.ofNat 0)), (.int .u64 (.ofNat 0))] true 98) fun h45 =>
     ob (kstore 4 (.ptr (Heap.next h34) 0) v44 h45) fun h46 =>
     ob (kfa 0 h_38) fun v47 =>
     ob (kloadN 4 h46 v47) fun v48 =>
     ob (kloadN 4 h46 (.ptr (Heap.next h34) 0)) fun v49 =>
     ob (S 262 [v48, v49] h46) fun r50 => kres r50 (fun v51 h52 =>
     ob (kfa 0 h_38) fun v55 =>
     ob (kstore 4 v55 v51 h52) fun h56 =>
     ob (kbinI .add v41 (.int .i64 (.ofNat 1))) fun v57 =>
     (some ⟨0, [p_35, owner_36, masks_37, h_38, v39, v40, v57], ds33, h56⟩)) (fun p53 h54 => (some ⟨2, [p53], ds33, h54⟩)))
     ((some ⟨1, [p_35, owner_36, masks_37, h_38], ds33, h34⟩))) rounds [p_1, owner_2, v27, (.ptr (Heap.next h24) 0), v27, v31, (.int .i64 (.ofNat 0))] [] h30) fun r58 => kcase (J.i r58) [kv4 (J.vs r58) fun p_59 owner_60 masks_61 h_62 =>
    ob (knil p_59) fun v63 =>
    ob (kfa 2 v63) fun v64 =>
    ob (kload (J.h r58) v64) fun v65 =>
    ob (kloadN 5 (J.h r58) h_62) fun v66 =>
    ob (amapSet Tryz.prog (J.h r58) 201 v65 owner_60 v66) fun h67 =>
    (dleave (fun h68 => (some (false, (.tuple [masks_61, (.int .i64 (.ofNat 0))]), h68))) (J.ds r58) h67),
   kv1 (J.vs r58) fun p69 => (kds (J.ds r58) (some (true, p69, (J.h r58))))])) (fun p25 h26 => (some (true, p25, h26)))) (fun p14 h15 => (some (true, p14, h15))))) (fun p8 h9 => (some (true, p8, h9))))
theorem F313_ok {S : FS} {D : FD} (hS : SpecsOK Tryz.prog S) (hD : DynOK Tryz.prog D) : SpecOK Tryz.prog 313 (F313 S D) :=
  SpecOK.of (c := match Tryz.f313.body with | some c => c | none => .skip) (by kernel_rfl) hS hD ⟨Tryz.func313, rfl, by decide⟩
    (.seq .n (.seq (.seq .n (.seq .n (.dup (.seq .n .n) .n))) (.seq .n (.seq .n (.seq (.seq .n (.dup (.seq .n .n) .n)) (.seq .n (.seq (.seq .n (.one (.loop [0, 1, 9, 11, 35, 36, 37] [(.exit 0, [0, 1, 9, 11]), (.pan, [])] (.seq .n (.seq (.dup .n .n) (.seq (.one (.seq .n .n)) .n)))))) (.seq .n (.seq .n .n))))))))) 3 (fun args h => by kernel_rfl)
/-- slices.ContainsFunc[[]roundhouse/api.Task,roundhouse/api.Task] -/
noncomputable def F315 (S : FS) (D : FD) (args : List AV) (h : Heap) : Option (Bool × AV × Heap) :=
 kv2 args fun s_1 f_2 =>
 ob (S 255 [s_1, f_2] h) fun r3 => kres r3 (fun v4 h5 =>
 ob (kbinI .geq v4 (.int .i64 (.ofNat 0))) fun v8 =>
 (some (false, v8, h5))) (fun p6 h7 => (some (true, p6, h7)))
theorem F315_ok {S : FS} {D : FD} (hS : SpecsOK Tryz.prog S) (hD : DynOK Tryz.prog D) : SpecOK Tryz.prog 315 (F315 S D) :=
  SpecOK.of (c := match Tryz.f315.body with | some c => c | none => .skip) (by kernel_rfl) hS hD ⟨Tryz.func315, rfl, by decide⟩
    (.seq .n (.seq .n .n)) 2 (fun args h => by kernel_rfl)
/-- (*roundhouse/agent.Agent).busy$1 -/
noncomputable def F316 (S : FS) (D : FD) (args : List AV) (h : Heap) : Option (Bool × AV × Heap) :=
 kv2 args fun x_1 v2 =>
 knt x_1 (Heap.pushK h (.cells (AV.cells x_1) true 39) fun h3 =>
 ob (kfa 1 (.ptr (Heap.next h) 0)) fun v4 =>
 ob (kload h3 v4) fun v5 =>
 ob (kfa 3 v2) fun v6 =>
 ob (kload h3 v6) fun v7 =>
 ob (kbinI .eql v5 v7) fun v8 =>
 ob (kgv true v8 (kfa 2 (.ptr (Heap.next h) 0))) fun v9 =>
 ob (kgv true v8 (kload h3 v9)) fun v10 =>
 ob (kgv true v8 (kfa 4 v2)) fun v11 =>
 ob (kgv true v8 (kload h3 v11)) fun v12 =>
 ob (kgv true v8 (kbinI .eql v10 v12)) fun v13 =>
 ob (kpick v8 v13 (.bool false)) fun v14 =>
 (some (false, v14, h3)))
theorem F316_ok {S : FS} {D : FD} (hS : SpecsOK Tryz.prog S) (hD : DynOK Tryz.prog D) : SpecOK Tryz.prog 316 (F316 S D) :=
  SpecOK.of (c := match Tryz.f316.body with | some c => c | none => .skip) (by kernel_rfl) hS hD ⟨Tryz.func316, rfl, by decide⟩
    (.seq .n (.seq .n .n)) 2 (fun args h => by kernel_rfl)
/-- (*roundhouse/node.asked).prolog -/
noncomputable def F317 (S : FS) (D : FD) (args : List AV) (h : Heap) : Option (Bool × AV × Heap) :=
 kv2 args fun x_1 f_2 =>
 knt f_2 (Heap.pushK h (.cells (AV.cells f_2) true 358) fun h3 =>
 Heap.pushK h3 (.cells [(.bool false), (.int .i64 (.ofNat 0)), (.int .i64 (.ofNat 0)), (.int .i64 (.ofNat 0)), (.int .i64 (.ofNat 0)), (.int .i64 (.ofNat 0)), AV.nilslice, (.bool false), (.int .i64 (.ofNat 0)), (.int .i64 (.ofNat 0)), (.int .i64 (.ofNat 0)), (.int .i64 (.ofNat 0)), (.int .i64 (.ofNat 0)), (.int .i64 (.ofNat 0)), (.int .i64 (.ofNat 0)), (.str 0 0), (.bool false), (.bool false), (.bool false)] true 362) fun h4 =>
 ob (S 308 [x_1] h4) fun r5 => kres r5 (fun v6 h7 =>
 kif v6
  (ob (abuild Tryz.prog 362 []) fun v10 =>
  ob (S 336 [x_1, v10, (.int .i64 (.ofNat 1)), (.int .i64 (.ofNat 0))] h7) fun r11 => kres r11 (fun v12 h13 =>
  ob (kstore 19 (.ptr (Heap.next h3) 0) v12 h13) fun h16 =>
  ob (kloadN 19 h16 (.ptr (Heap.next h3) 0)) fun v17 => (some (false, v17, h16))) (fun p14 h15 => (some (true, p14, h15))))
  (ob (knil x_1) fun v18 =>
  ob (kfa 15 v18) fun v19 =>
  ob (kload h7 v19) fun v20 =>
  ob (kgv true v20 (some x_1)) fun v21 =>
  ob (kgv true v20 (knil v21)) fun v22 =>
  ob (kgv true v20 (kfa 12 v22)) fun v23 =>
  ob (kgv true v20 (kfa 2 v23)) fun v24 =>
  ob (kgv true v20 (kload h7 v24)) fun v25 =>
  ob (kgv true v20 (kbinI .eql v25 (.int .i64 (.ofNat 1)))) fun v26 =>
  ob (kpick v20 v26 (.bool false)) fun v27 =>
  kif v27
   (ob (abuild Tryz.prog 362 []) fun v28 =>
   ob (S 336 [x_1, v28, (.int .i64 (.ofNat 1)), (.int .i64 (.ofNat 1))] h7) fun r29 => kres r29 (fun v30 h31 =>
   ob (kstore 19 (.ptr (Heap.next h3) 0) v30 h31) fun h34 =>
   ob (kloadN 19 h34 (.ptr (Heap.next h3) 0)) fun v35 => (some (false, v35, h34))) (fun p32 h33 => (some (true, p32, h33))))
   (ob (knil x_1) fun v36 =>
   ob (kfa 15 v36) fun v37 =>
   ob (kload h7 v37) fun v38 =>
   ob (kgv true v38 (some x_1)) fun v39 =>
   ob (kgv true v38 (knil v39)) fun v40 =>
   ob (kgv true v38 (kfa 12 v40)) fun v41 =>
   ob (kgv true v38 (kfa 2 v41)) fun v42 =>
   ob (kgv true v38 (kload h7 v42)) fun v43 =>
   ob (kgv true v38 (kbinI .eql v43 (.int .i64 (.ofNat 2)))) fun v44 =>
   ob (kpick v38 v44 (.bool false)) fun v45 =>
   kif v45
    (ob (abuild Tryz.prog 362 []) fun v46 =>
    ob (S 336 [x_1, v46, (.int .i64 (.ofNat 9)), (.int .i64 (.ofNat 0))] h7) fun r47 => kres r47 (fun v48 h49 =>
    ob (kstore 19 (.ptr (Heap.next h3) 0) v48 h49) fun h52 =>
    ob (kloadN 19 h52 (.ptr (Heap.next h3) 0)) fun v53 => (some (false, v53, h52))) (fun p50 h51 => (some (true, p50, h51))))
    (ob (knil x_1) fun v54 =>
    ob (kfa 15 v54) fun v55 =>
    ob (kload h7 v55) fun v56 =>
    ob (kgv false v56 (some x_1)) fun v57 =>
    ob (kgc false v56 h7 (S 378 [v57] h7)) fun r58 => kres r58 (fun v59 h60 =>
    ob (kpick v56 (.bool true) v59) fun v63 =>
    kif v63
     (ob (abuild Tryz.prog 362 []) fun v64 =>
     ob (kstore 19 (.ptr (Heap.next h3) 0) v64 h60) fun h65 =>
     ob (kloadN 19 h65 (.ptr (Heap.next h3) 0)) fun v66 => (some (false, v66, h65)))
     (ob (knil x_1) fun v67 =>
     ob (kfa 9 v67) fun v68 =>
     ob (kfa 2 v68) fun v69 =>
     ob (kload h60 v69) fun v70 =>
     kif v70
      (ob (abuild Tryz.prog 362 []) fun v71 =>
      ob (S 336 [x_1, v71, (.int .i64 (.ofNat 1)), (.int .i64 (.ofNat 1))] h60) fun r72 => kres r72 (fun v73 h74 =>
      ob (kstore 19 (.ptr (Heap.next h3) 0) v73 h74) fun h77 =>
      ob (kloadN 19 h77 (.ptr (Heap.next h3) 0)) fun v78 => (some (false, v78, h77))) (fun p75 h76 => (some (true, p75, h76))))
      (ob (kfa 2 (.ptr (Heap.next h) 0)) fun v79 =>
      ob (kload h60 v79) fun v80 =>
      ob (kfa 2 (.ptr (Heap.next h) 0)) fun v81 =>
      ob (kload h60 v81) fun v82 =>
      ob (amaxs false [v82, (.int .i64 (.ofNat 1))]) fun v83 =>
      ob (S 337 [x_1, (.int .i64 (.ofNat 0)), v80] h60) fun r84 => kres r84 (fun v85 h86 =>
      kre (kload h86 v81) v82 (ob (S 336 [x_1, v85, (.int .i64 (.ofNat 1)), v83] h86) fun r89 => kres r89 (fun v90 h91 =>
      ob (kstore 19 (.ptr (Heap.next h3) 0) v90 h91) fun h94 =>
      ob (kloadN 19 h94 (.ptr (Heap.next h3) 0)) fun v95 => (some (false, v95, h94))) (fun p92 h93 => (some (true, p92, h93))))) (fun p87 h88 => none)))) (fun p61 h62 => (some (true, p61, h62))))))) (fun p8 h9 => (some (true, p8, h9))))
theorem F317_ok {S : FS} {D : FD} (hS : SpecsOK Tryz.prog S) (hD : DynOK Tryz.prog D) : SpecOK Tryz.prog 317 (F317 S D) :=
  SpecOK.of (c := match Tryz.f317.body with | some c => c | none => .skip) (by kernel_rfl) hS hD ⟨Tryz.func317, rfl, by decide⟩
    (.seq .n (.seq (.one (.seq .n (.dup (.seq .n .n) (.seq .n (.dup (.seq .n .n) (.seq .n (.dup (.seq .n .n) (.seq .n (.dup (.seq .n .n) (.seq .n (.dup (.seq .n .n) .n))))))))))) (.seq .n .n))) 2 (fun args h => by kernel_rfl)
/-- (*roundhouse/node.asked).launch -/
noncomputable def F318 (S : FS) (D : FD) (args : List AV) (h : Heap) : Option (Bool × AV × Heap) :=
 kv2 args fun x_1 f_2 =>
 knt f_2 (Heap.pushK h (.cells (AV.cells f_2) true 358) fun h3 =>
 Heap.pushK h3 (.cells [(.bool false), (.int .i64 (.ofNat 0)), (.int .i64 (.ofNat 0)), (.int .i64 (.ofNat 0)), (.int .i64 (.ofNat 0)), (.int .i64 (.ofNat 0)), AV.nilslice, (.bool false), (.int .i64 (.ofNat 0)), (.int .i64 (.ofNat 0)), (.int .i64 (.ofNat 0)), (.int .i64 (.ofNat 0)), (.int .i64 (.ofNat 0)), (.int .i64 (.ofNat 0)), (.int .i64 (.ofNat 0)), (.str 0 0), (.bool false), (.bool false), (.bool false)] true 362) fun h4 =>
 ob (S 321 [x_1, (.int .i64 (.ofNat 2))] h4) fun r5 => kres r5 (fun v6 h7 =>
 kif v6
  (ob (abuild Tryz.prog 362 []) fun v10 =>
  ob (S 336 [x_1, v10, (.int .i64 (.ofNat 3)), (.int .i64 (.ofNat 0))] h7) fun r11 => kres r11 (fun v12 h13 =>
  ob (kstore 19 (.ptr (Heap.next h3) 0) v12 h13) fun h16 =>
  ob (kloadN 19 h16 (.ptr (Heap.next h3) 0)) fun v17 => (some (false, v17, h16))) (fun p14 h15 => (some (true, p14, h15))))
  (ob (knil x_1) fun v18 =>
  ob (kfa 22 v18) fun v19 =>
  ob (kload h7 v19) fun v20 =>
  kif v20
   (ob (abuild Tryz.prog 362 []) fun v21 =>
   ob (S 336 [x_1, v21, (.int .i64 (.ofNat 3)), (.int .i64 (.ofNat 1))] h7) fun r22 => kres r22 (fun v23 h24 =>
   ob (kstore 19 (.ptr (Heap.next h3) 0) v23 h24) fun h27 =>
   ob (kloadN 19 h27 (.ptr (Heap.next h3) 0)) fun v28 => (some (false, v28, h27))) (fun p25 h26 => (some (true, p25, h26))))
   (ob (S 308 [x_1] h7) fun r29 => kres r29 (fun v30 h31 =>
   ob (aun .not v30) fun v34 =>
   ob (kgv false v34 (kfa 0 (.ptr (Heap.next h) 0))) fun v35 =>
   ob (kgv false v34 (kload h31 v35)) fun v36 =>
   ob (kgv false v34 (kbinI .neq v36 (.int .i64 (.ofNat 0)))) fun v37 =>
   ob (kpick v34 (.bool true) v37) fun v38 =>
   ob (kgv false v38 (kfa 1 (.ptr (Heap.next h) 0))) fun v39 =>
   ob (kgv false v38 (kload h31 v39)) fun v40 =>
   ob (kgv false v38 (klenL v40)) fun v41 =>
   ob (kgv false v38 (kbinI .eql v41 (.int .i64 (.ofNat 0)))) fun v42 =>
   ob (kpick v38 (.bool true) v42) fun v43 =>
   kif v43
    (ob (abuild Tryz.prog 362 []) fun v44 =>
    ob (S 336 [x_1, v44, (.int .i64 (.ofNat 3)), (.int .i64 (.ofNat 0))] h31) fun r45 => kres r45 (fun v46 h47 =>
    ob (kstore 19 (.ptr (Heap.next h3) 0) v46 h47) fun h50 =>
    ob (kloadN 19 h50 (.ptr (Heap.next h3) 0)) fun v51 => (some (false, v51, h50))) (fun p48 h49 => (some (true, p48, h49))))
    (ob (S 337 [x_1, (.int .i64 (.ofNat 1)), (.int .i64 (.ofNat 0))] h31) fun r52 => kres r52 (fun v53 h54 =>
    Heap.pushK h54 (.cells [(.bool false), (.int .i64 (.ofNat 0)), (.int .i64 (.ofNat 0)), (.int .i64 (.ofNat 0)), (.int .i64 (.ofNat 0)), (.int .i64 (.ofNat 0)), AV.nilslice, (.bool false), (.int .i64 (.ofNat 0)), (.int .i64 (.ofNat 0)), (.int .i64 (.ofNat 0)), (.int .i64 (.ofNat 0)), (.int .i64 (.ofNat 0)), (.int .i64 (.ofNat 0)), (.int .i64 (.ofNat 0)), (.str 0 0), (.bool false), (.bool false), (.bool false)] true 362) fun h57 =>
    ob (kstore 19 (.ptr (Heap.next h54) 0) v53 h57) fun h58 =>
    ob (kfa 1 (.ptr (Heap.next h) 0)) fun v59 =>
    ob (kload h58 v59) fun v60 =>
    ob (S 40 [v60] h58) fun r61 => kres r61 (fun v62 h63 =>
    ob (kfa 1 (.ptr (Heap.next h54) 0)) fun v66 =>
    ob (kfa 5 v66) fun v67 =>
    ob (kstore 1 v67 v62 h63) fun h68 =>
    ob (kloadN 19 h68 (.ptr (Heap.next h54) 0)) fun v69 =>
    ob (S 336 [x_1, v69, (.int .i64 (.ofNat 3)), (.int .i64 (.ofNat 1))] h68) fun r70 => kres r70 (fun v71 h72 =>
    ob (kstore 19 (.ptr (Heap.next h3) 0) v71 h72) fun h75 =>
    ob (kloadN 19 h75 (.ptr (Heap.next h3) 0)) fun v76 => (some (false, v76, h75))) (fun p73 h74 => (some (true, p73, h74)))) (fun p64 h65 => (some (true, p64, h65)))) (fun p55 h56 => (some (true, p55, h56))))) (fun p32 h33 => (some (true, p32, h33)))))) (fun p8 h9 => (some (true, p8, h9))))
theorem F318_ok {S : FS} {D : FD} (hS : SpecsOK Tryz.prog S) (hD : DynOK Tryz.prog D) : SpecOK Tryz.prog 318 (F318 S D) :=
  SpecOK.of (c := match Tryz.f318.body with | some c => c | none => .skip) (by kernel_rfl) hS hD ⟨Tryz.func318, rfl, by decide⟩
    (.seq .n (.seq (.one (.seq .n (.dup (.seq .n .n) (.seq .n (.dup (.seq .n .n) (.seq .n (.dup (.seq .n .n) .n))))))) (.seq .n (.seq .n (.seq .n .n))))) 2 (fun args h => by kernel_rfl)
/-- (*roundhouse/node.asked).release -/
noncomputable def F319 (S : FS) (D : FD) (args : List AV) (h : Heap) : Option (Bool × AV × Heap) :=
 kv1 args fun x_1 =>
 Heap.pushK h (.cells [(.bool false), (.int .i64 (.ofNat 0)), (.int .i64 (.ofNat 0)), (.int .i64 (.ofNat 0)), (.int .i64 (.ofNat 0)), (.int .i64 (.ofNat 0)), AV.nilslice, (.bool false), (.int .i64 (.ofNat 0)), (.int .i64 (.ofNat 0)), (.int .i64 (.ofNat 0)), (.int .i64 (.ofNat 0)), (.int .i64 (.ofNat 0)), (.int .i64 (.ofNat 0)), (.int .i64 (.ofNat 0)), (.str 0 0), (.bool false), (.bool false), (.bool false)] true 362) fun h2 =>
 ob (S 321 [x_1, (.int .i64 (.ofNat 0))] h2) fun r3 => kres r3 (fun v4 h5 =>
 kif v4
  (ob (S 337 [x_1, (.int .i64 (.ofNat 3)), (.int .i64 (.ofNat 0))] h5) fun r8 => kres r8 (fun v9 h10 =>
  Heap.pushK h10 (.cells [(.bool false), (.int .i64 (.ofNat 0)), (.int .i64 (.ofNat 0)), (.int .i64 (.ofNat 0)), (.int .i64 (.ofNat 0)), (.int .i64 (.ofNat 0)), AV.nilslice, (.bool false), (.int .i64 (.ofNat 0)), (.int .i64 (.ofNat 0)), (.int .i64 (.ofNat 0)), (.int .i64 (.ofNat 0)), (.int .i64 (.ofNat 0)), (.int .i64 (.ofNat 0)), (.int .i64 (.ofNat 0)), (.str 0 0), (.bool false), (.bool false), (.bool false)] true 362) fun h13 =>
  ob (kstore 19 (.ptr (Heap.next h10) 0) v9 h13) fun h14 =>
  ob (kfa 16 (.ptr (Heap.next h10) 0)) fun v15 =>
  ob (kstore 1 v15 (.bool true) h14) fun h16 =>
  ob (kloadN 19 h16 (.ptr (Heap.next h10) 0)) fun v17 =>
  ob (kstore 19 (.ptr (Heap.next h) 0) v17 h16) fun h18 =>
  ob (kloadN 19 h18 (.ptr (Heap.next h) 0)) fun v19 => (some (false, v19, h18))) (fun p11 h12 => (some (true, p11, h12))))
  (ob (S 321 [x_1, (.int .i64 (.ofNat 3))] h5) fun r20 => kres r20 (fun v21 h22 =>
  kif v21
   (ob (abuild Tryz.prog 362 []) fun v25 =>
   ob (knil x_1) fun v26 =>
   ob (kfa 16 v26) fun v27 =>
   ob (kfa 4 v27) fun v28 =>
   ob (kload h22 v28) fun v29 =>
   ob (S 336 [x_1, v25, (.int .i64 (.ofNat 6)), v29] h22) fun r30 => kres r30 (fun v31 h32 =>
   ob (kstore 19 (.ptr (Heap.next h) 0) v31 h32) fun h35 =>
   ob (kloadN 19 h35 (.ptr (Heap.next h) 0)) fun v36 => (some (false, v36, h35))) (fun p33 h34 => (some (true, p33, h34))))
   (ob (abuild Tryz.prog 362 []) fun v37 =>
   ob (kstore 19 (.ptr (Heap.next h) 0) v37 h22) fun h38 =>
   ob (kloadN 19 h38 (.ptr (Heap.next h) 0)) fun v39 => (some (false, v39, h38)))) (fun p23 h24 => (some (true, p23, h24))))) (fun p6 h7 => (some (true, p6, h7)))
theorem F319_ok {S : FS} {D : FD} (hS : SpecsOK Tryz.prog S) (hD : DynOK Tryz.prog D) : SpecOK Tryz.prog 319 (F319 S D) :=
  SpecOK.of (c := match Tryz.f319.body with | some c => c | none => .skip) (by kernel_rfl) hS hD ⟨Tryz.func319, rfl, by decide⟩
    (.seq .n (.seq (.one (.seq .n (.dup (.seq .n (.seq .n (.seq .n .n))) (.seq .n (.dup (.seq .n .n) .n))))) (.seq .n .n))) 1 (fun args h => by kernel_rfl)
end Go.Rh.Tryz
