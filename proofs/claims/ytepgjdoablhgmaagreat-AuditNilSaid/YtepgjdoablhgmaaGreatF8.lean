/- Printed by wip/tools/gen.py: functions of the program as plain functions over abstract values, each with its proof. -/
import Derived.Test.YtepgjdoablhgmaaGreatProg
import Derived.Test.YtepgjdoablhgmaaGreatRh3
set_option maxRecDepth 1000000
set_option linter.unusedVariables false
namespace Go.Rh.Tryz
open Go.Proofs
/-- roundhouse/agent.told -/
noncomputable def F254 (S : FS) (D : FD) (args : List AV) (h : Heap) : Option (Bool × AV × Heap) :=
 kv1 args fun act_1 =>
 knt act_1 (Heap.pushK h (.cells (AV.cells act_1) true 362) fun h2 =>
 ob (kfa 7 (.ptr (Heap.next h) 0)) fun v3 =>
 ob (kload h2 v3) fun v4 =>
 ob (aun .not v4) fun v5 =>
 kif v5
  ((some (false, AV.nilslice, h2)))
  (ob (kfa 8 (.ptr (Heap.next h) 0)) fun v6 =>
  ob (kloadN 8 h2 v6) fun v7 =>
  ob (S 190 [v7] h2) fun r8 => kres r8 (fun v9 h10 =>
  ob (abuildSlice Tryz.prog 187 1 [(0, v9)]) fun r13 => Heap.pushK h10 (.cells r13.1 true r13.2.2) fun h14 =>
  (some (false, (.slice (Heap.next h10) 0 1 1 r13.2.1), h14))) (fun p11 h12 => (some (true, p11, h12)))))
theorem F254_ok {S : FS} {D : FD} (hS : SpecsOK Tryz.prog S) (hD : DynOK Tryz.prog D) : SpecOK Tryz.prog 254 (F254 S D) :=
  SpecOK.of (c := match Tryz.f254.body with | some c => c | none => .skip) (by kernel_rfl) hS hD ⟨Tryz.func254, rfl, by decide⟩
    (.seq .n (.seq (.seq .n (.dup (.seq .n .n) .n)) (.seq .n .n))) 1 (fun args h => by kernel_rfl)
/-- slices.IndexFunc[[]roundhouse/api.Task,roundhouse/api.Task] -/
noncomputable def F255 (S : FS) (D : FD) (args : List AV) (h : Heap) : Option (Bool × AV × Heap) :=
 kv2 args fun s_1 f_2 =>
 ob (klenL s_1) fun v3 =>
 ob (iterD (fun vs4 ds5 h6 => kv4 vs4 fun s_7 f_8 v9 v10 =>
  ob (kbinI .lss v10 v9) fun v11 =>
  kif v11
   (ob (kia 8 s_7 v10) fun v12 =>
   ob (kloadN 8 h6 v12) fun v13 =>
   ob (D f_8 [v13] h6) fun r14 => kres r14 (fun v15 h16 =>
   kif v15
    ((some ⟨2, [v10], ds5, h16⟩))
    (ob (kbinI .add v10 (.int .i64 (.ofNat 1))) fun v19 =>
    (some ⟨0, [s_7, f_8, v9, v19], ds5, h16⟩))) (fun p17 h18 => (some ⟨3, [p17], ds5, h18⟩)))
   ((some ⟨1, [], ds5, h6⟩))) rounds [s_1, f_2, v3, (.int .i64 (.ofNat 0))] [] h) fun r20 => kcase (J.i r20) [kv0 (J.vs r20) ((dleave (fun h21 => (some (false, (.int .i64 (.negSucc 0)), h21))) (J.ds r20) (J.h r20))),
 kv1 (J.vs r20) fun v22 =>
  (dleave (fun h23 => (some (false, v22, h23))) (J.ds r20) (J.h r20)),
 kv1 (J.vs r20) fun p24 => (kds (J.ds r20) (some (true, p24, (J.h r20))))]
theorem F255_ok {S : FS} {D : FD} (hS : SpecsOK Tryz.prog S) (hD : DynOK Tryz.prog D) : SpecOK Tryz.prog 255 (F255 S D) :=
  SpecOK.of (c := match Tryz.f255.body with | some c => c | none => .skip) (by kernel_rfl) hS hD ⟨Tryz.func255, rfl, by decide⟩
    (.seq .n (.seq (.seq .n (.one (.loop [0, 1, 7, 8] [(.exit 0, []), (.ret, [4]), (.pan, [])] (.seq .n (.seq (.dup .n .n) (.seq (.one (.seq .n (.seq .n (.dup (.seq .n .n) .n)))) .n)))))) (.seq .n .n))) 2 (fun args h => by kernel_rfl)
/-- (*roundhouse/procs.Table).Exit -/
noncomputable def F256 (S : FS) (D : FD) (args : List AV) (h : Heap) : Option (Bool × AV × Heap) :=
 kv3 args fun t_1 pid_2 code_3 =>
 ob (kbinI .lss code_3 (.int .i64 (.ofNat 0))) fun v4 =>
 ob (kgv false v4 (some code_3)) fun v5 =>
 ob (kgv false v4 (kbinI .gtr v5 (.int .i64 (.ofNat 255)))) fun v6 =>
 ob (kpick v4 (.bool true) v6) fun v7 =>
 kif v7
  ((some (false, (.int .i64 (.ofNat 1)), h)))
  (ob (S 327 [(.int .i64 (.ofNat 1))] h) fun r8 => kres r8 (fun v9 h10 =>
  ob (S 294 [t_1, pid_2, v9] h10) fun r13 => kres r13 (fun v14 h15 =>
  ob (aextract v14 0) fun v18 =>
  ob (aextract v14 1) fun v19 =>
  ob (kbinI .eql v19 (.int .i64 (.ofNat 0))) fun v20 =>
  ob (kif v20
   (ob (knil v18) fun v22 =>
   ob (kfa 0 v22) fun v23 =>
   ob (kfa 6 v23) fun v24 =>
   ob (kstore 1 v24 (.int .i64 (.ofNat 2)) h15) fun h25 =>
   ob (knil v18) fun v26 =>
   ob (kfa 0 v26) fun v27 =>
   ob (kfa 7 v27) fun v28 =>
   ob (kstore 1 v28 code_3 h25) fun h29 =>
   (some ⟨0, [v19], [], h29⟩))
   ((some ⟨0, [v19], [], h15⟩))) fun r21 => kcase (J.i r21) [kv1 (J.vs r21) fun e_30 =>
   (dleave (fun h31 => (some (false, e_30, h31))) (J.ds r21) (J.h r21))]) (fun p16 h17 => (some (true, p16, h17)))) (fun p11 h12 => (some (true, p11, h12))))
theorem F256_ok {S : FS} {D : FD} (hS : SpecsOK Tryz.prog S) (hD : DynOK Tryz.prog D) : SpecOK Tryz.prog 256 (F256 S D) :=
  SpecOK.of (c := match Tryz.f256.body with | some c => c | none => .skip) (by kernel_rfl) hS hD ⟨Tryz.func256, rfl, by decide⟩
    (.seq .n (.seq (.seq .n (.dup (.seq .n .n) .n)) (.seq .n (.seq (.seq .n (.join [(.norm, [8])] (.dup .n .n))) (.seq .n .n))))) 3 (fun args h => by kernel_rfl)
/-- (*roundhouse/agent.Agent).tasks -/
noncomputable def F257 (S : FS) (D : FD) (args : List AV) (h : Heap) : Option (Bool × AV × Heap) :=
 kv2 args fun a_1 pids_2 =>
 knt pids_2 (Heap.pushK h (.cells (AV.cells pids_2) true 37) fun h3 =>
 ob (knil a_1) fun v4 =>
 ob (kfa 0 v4) fun v5 =>
 ob (kfa 1 v5) fun v6 =>
 ob (kload h3 v6) fun v7 =>
 ob (S 23 [v7] h3) fun r8 => kres r8 (fun v9 h10 =>
 ob (S 196 [v9, (.func 328 [(.ptr (Heap.next h) 0)])] h10) fun r13 => kres r13 (fun v14 h15 =>
 (some (false, v14, h15))) (fun p16 h17 => (some (true, p16, h17)))) (fun p11 h12 => (some (true, p11, h12))))
theorem F257_ok {S : FS} {D : FD} (hS : SpecsOK Tryz.prog S) (hD : DynOK Tryz.prog D) : SpecOK Tryz.prog 257 (F257 S D) :=
  SpecOK.of (c := match Tryz.f257.body with | some c => c | none => .skip) (by kernel_rfl) hS hD ⟨Tryz.func257, rfl, by decide⟩
    (.seq .n (.seq .n .n)) 2 (fun args h => by kernel_rfl)
/-- (*roundhouse/agent.Agent).use -/
noncomputable def F258 (S : FS) (D : FD) (args : List AV) (h : Heap) : Option (Bool × AV × Heap) :=
 kv2 args fun a_1 x_2 =>
 knt x_2 (Heap.pushK h (.cells (AV.cells x_2) true 39) fun h3 =>
 ob (knil a_1) fun v4 =>
 ob (kfa 0 v4) fun v5 =>
 ob (kfa 2 v5) fun v6 =>
 ob (kload h3 v6) fun v7 =>
 ob (kfa 1 (.ptr (Heap.next h) 0)) fun v8 =>
 ob (kload h3 v8) fun v9 =>
 ob (kfa 5 (.ptr (Heap.next h) 0)) fun v10 =>
 ob (kload h3 v10) fun v11 =>
 ob (klenL v11) fun v12 =>
 ob (knil a_1) fun v13 =>
 ob (kfa 0 v13) fun v14 =>
 ob (kfa 3 v14) fun v15 =>
 ob (kload h3 v15) fun v16 =>
 ob (kfa 0 (.ptr (Heap.next h) 0)) fun v17 =>
 ob (kload h3 v17) fun v18 =>
 ob (alookup Tryz.prog h3 77 v16 v18 false) fun v19 =>
 ob (kfield false 0 1 v19) fun v20 =>
 ob (knil a_1) fun v21 =>
 ob (kfa 0 v21) fun v22 =>
 ob (kfa 4 v22) fun v23 =>
 ob (kload h3 v23) fun v24 =>
 ob (abuild Tryz.prog 436 [(0, v9), (1, v12), (2, v20), (3, v24)]) fun v25 =>
 ob (S 329 [v7, v25] h3) fun r26 => kres r26 (fun v27 h28 =>
 (some (false, (.tuple []), h28))) (fun p29 h30 => (some (true, p29, h30))))
theorem F258_ok {S : FS} {D : FD} (hS : SpecsOK Tryz.prog S) (hD : DynOK Tryz.prog D) : SpecOK Tryz.prog 258 (F258 S D) :=
  SpecOK.of (c := match Tryz.f258.body with | some c => c | none => .skip) (by kernel_rfl) hS hD ⟨Tryz.func258, rfl, by decide⟩
    (.seq .n .n) 2 (fun args h => by kernel_rfl)
/-- roundhouse/rec.StepOf -/
noncomputable def F259 (S : FS) (D : FD) (args : List AV) (h : Heap) : Option (Bool × AV × Heap) :=
 kv4 args fun s_1 job_2 epoch_3 step_4 =>
 knt s_1 (Heap.pushK h (.cells (AV.cells s_1) true 85) fun h5 =>
 Heap.pushK h5 (.cells [(.int .i64 (.ofNat 0)), (.int .i64 (.ofNat 0)), (.int .i64 (.ofNat 0)), (.int .i64 (.ofNat 0)), (.int .i64 (.ofNat 0)), AV.nilslice] true 156) fun h6 =>
 ob (kloadN 3 h6 (.ptr (Heap.next h) 0)) fun v7 =>
 ob (S 280 [v7, job_2, epoch_3, step_4] h6) fun r8 => kres r8 (fun v9 h10 =>
 ob (kbinI .geq v9 (.int .i64 (.ofNat 0))) fun v13 =>
 kif v13
  (ob (kfa 1 (.ptr (Heap.next h) 0)) fun v14 =>
  ob (kload h10 v14) fun v15 =>
  ob (kia 6 v15 v9) fun v16 =>
  ob (kloadN 6 h10 v16) fun v17 =>
  ob (kstore 6 (.ptr (Heap.next h5) 0) v17 h10) fun h18 =>
  ob (kloadN 6 h18 (.ptr (Heap.next h5) 0)) fun v19 => (some (false, (.tuple [v19, (.bool true)]), h18)))
  (ob (abuild Tryz.prog 156 []) fun v20 =>
  ob (kstore 6 (.ptr (Heap.next h5) 0) v20 h10) fun h21 =>
  ob (kloadN 6 h21 (.ptr (Heap.next h5) 0)) fun v22 => (some (false, (.tuple [v22, (.bool false)]), h21)))) (fun p11 h12 => (some (true, p11, h12))))
theorem F259_ok {S : FS} {D : FD} (hS : SpecsOK Tryz.prog S) (hD : DynOK Tryz.prog D) : SpecOK Tryz.prog 259 (F259 S D) :=
  SpecOK.of (c := match Tryz.f259.body with | some c => c | none => .skip) (by kernel_rfl) hS hD ⟨Tryz.func259, rfl, by decide⟩
    (.seq .n (.seq (.seq .n (.seq .n (.dup (.seq .n .n) .n))) (.seq .n .n))) 4 (fun args h => by kernel_rfl)
/-- (*roundhouse/agent.Agent).reap -/
noncomputable def F260 (S : FS) (D : FD) (args : List AV) (h : Heap) : Option (Bool × AV × Heap) :=
 kv2 args fun a_1 pids_2 =>
 ob (klenL pids_2) fun v3 =>
 ob (iterD (fun vs4 ds5 h6 => kv4 vs4 fun a_7 v8 v9 v10 =>
  ob (kbinI .lss v10 v9) fun v11 =>
  kif v11
   (ob (kia 1 v8 v10) fun v12 =>
   ob (kload h6 v12) fun v13 =>
   ob (knil a_7) fun v14 =>
   ob (kfa 0 v14) fun v15 =>
   ob (kfa 1 v15) fun v16 =>
   ob (kload h6 v16) fun v17 =>
   ob (S 330 [v17, v13] h6) fun r18 => kres r18 (fun v19 h20 =>
   ob (aextract v19 0) fun v23 =>
   ob (aextract v19 1) fun v24 =>
   Heap.pushK h20 (.cells [(.int .i64 (.ofNat 0)), (.int .i64 (.ofNat 0)), (.int .i64 (.ofNat 0)), (.int .i64 (.ofNat 0)), (.int .i64 (.ofNat 0)), AV.nilslice, (.int .i64 (.ofNat 0)), (.int .i64 (.ofNat 0))] true 39) fun h25 =>
   ob (kstore 8 (.ptr (Heap.next h20) 0) v23 h25) fun h26 =>
   ob (kbinI .eql v24 (.int .i64 (.ofNat 0))) fun v27 =>
   ob (kif v27
    (ob (knil a_7) fun v29 =>
    ob (kfa 0 v29) fun v30 =>
    ob (kfa 3 v30) fun v31 =>
    ob (kload h26 v31) fun v32 =>
    ob (amapDel Tryz.prog h26 77 v32 v13) fun h33 =>
    (some ⟨0, [a_7, v8, v9, v10], ds5, h33⟩))
    ((some ⟨0, [a_7, v8, v9, v10], ds5, h26⟩))) fun r28 => kcase (J.i r28) [kv4 (J.vs r28) fun a_34 v35 v36 v37 =>
    ob (kbinI .add v37 (.int .i64 (.ofNat 1))) fun v38 =>
    (some ⟨0, [a_34, v35, v36, v38], (J.ds r28), (J.h r28)⟩)]) (fun p21 h22 => (some ⟨2, [p21], ds5, h22⟩)))
   ((some ⟨1, [], ds5, h6⟩))) rounds [a_1, pids_2, v3, (.int .i64 (.ofNat 0))] [] h) fun r39 => kcase (J.i r39) [kv0 (J.vs r39) ((dleave (fun h40 => (some (false, (.tuple []), h40))) (J.ds r39) (J.h r39))),
 kv1 (J.vs r39) fun p41 => (kds (J.ds r39) (some (true, p41, (J.h r39))))]
theorem F260_ok {S : FS} {D : FD} (hS : SpecsOK Tryz.prog S) (hD : DynOK Tryz.prog D) : SpecOK Tryz.prog 260 (F260 S D) :=
  SpecOK.of (c := match Tryz.f260.body with | some c => c | none => .skip) (by kernel_rfl) hS hD ⟨Tryz.func260, rfl, by decide⟩
    (.seq .n (.one (.loop [0, 8, 9, 10] [(.exit 0, []), (.pan, [])] (.seq .n (.seq (.dup .n .n) (.seq (.one (.seq .n (.seq .n (.seq .n (.join [(.norm, [0, 8, 9, 10])] (.dup .n .n)))))) .n)))))) 2 (fun args h => by kernel_rfl)
/-- roundhouse/mask.Of -/
noncomputable def F261 (S : FS) (D : FD) (args : List AV) (h : Heap) : Option (Bool × AV × Heap) :=
 kv1 args fun l_1 =>
 Heap.pushK h (.cells [(.int .u64 (.ofNat 0)), (.int .u64 (.ofNat 0)), (.int .u64 (.ofNat 0)), (.int .u64 (.ofNat 0))] true 98) fun h2 =>
 Heap.pushK h2 (.cells [(.int .u64 (.ofNat 0)), (.int .u64 (.ofNat 0)), (.int .u64 (.ofNat 0)), (.int .u64 (.ofNat 0))] true 98) fun h3 =>
 ob (klenL l_1) fun v4 =>
 ob (iterD (fun vs5 ds6 h7 => kv5 vs5 fun v8 m_9 v10 v11 v12 =>
  ob (kbinI .lss v12 v11) fun v13 =>
  kif v13
   (ob (kia 1 v10 v12) fun v14 =>
   ob (kload h7 v14) fun v15 =>
   ob (S 62 [v15] h7) fun r16 => kres r16 (fun v17 h18 =>
   ob (aun .not v17) fun v21 =>
   ob (kgv false v21 (kloadN 4 h18 m_9)) fun v22 =>
   ob (kgv false v21 (some v15)) fun v23 =>
   ob (kgc false v21 h18 (S 29 [v22, v23] h18)) fun r24 => kres r24 (fun v25 h26 =>
   ob (kpick v21 (.bool true) v25) fun v29 =>
   kif v29
    (ob (abuild Tryz.prog 98 []) fun v30 =>
    ob (kstore 4 v8 v30 h26) fun h31 =>
    (some ⟨2, [v8, (.int .i64 (.ofNat 1))], ds6, h31⟩))
    (ob (kloadN 4 h26 m_9) fun v32 =>
    ob (S 205 [v32, v15] h26) fun r33 => kres r33 (fun v34 h35 =>
    ob (kstore 4 m_9 v34 h35) fun h38 =>
    ob (kbinI .add v12 (.int .i64 (.ofNat 1))) fun v39 =>
    (some ⟨0, [v8, m_9, v10, v11, v39], ds6, h38⟩)) (fun p36 h37 => (some ⟨3, [p36], ds6, h37⟩)))) (fun p27 h28 => (some ⟨3, [p27], ds6, h28⟩))) (fun p19 h20 => (some ⟨3, [p19], ds6, h20⟩)))
   ((some ⟨1, [v8, m_9], ds6, h7⟩))) rounds [(.ptr (Heap.next h) 0), (.ptr (Heap.next h2) 0), l_1, v4, (.int .i64 (.ofNat 0))] [] h3) fun r40 => kcase (J.i r40) [kv2 (J.vs r40) fun v41 m_42 =>
  ob (kloadN 4 (J.h r40) m_42) fun v43 =>
  ob (kstore 4 v41 v43 (J.h r40)) fun h44 =>
  (dleave (fun h45 => ob (kloadN 4 h45 v41) fun v46 => (some (false, (.tuple [v46, (.int .i64 (.ofNat 0))]), h45))) (J.ds r40) h44),
 kv2 (J.vs r40) fun v47 v48 =>
  (dleave (fun h49 => ob (kloadN 4 h49 v47) fun v50 => (some (false, (.tuple [v50, v48]), h49))) (J.ds r40) (J.h r40)),
 kv1 (J.vs r40) fun p51 => (kds (J.ds r40) (some (true, p51, (J.h r40))))]
theorem F261_ok {S : FS} {D : FD} (hS : SpecsOK Tryz.prog S) (hD : DynOK Tryz.prog D) : SpecOK Tryz.prog 261 (F261 S D) :=
  SpecOK.of (c := match Tryz.f261.body with | some c => c | none => .skip) (by kernel_rfl) hS hD ⟨Tryz.func261, rfl, by decide⟩
    (.seq .n (.seq .n (.seq (.seq .n (.one (.loop [2, 4, 7, 8, 9] [(.exit 0, [2, 4]), (.ret, [2, 3]), (.pan, [])] (.seq .n (.seq (.dup .n .n) (.seq (.one (.seq .n (.seq (.seq .n (.dup (.seq .n .n) .n)) .n))) .n)))))) (.seq .n .n)))) 1 (fun args h => by kernel_rfl)
/-- (roundhouse/mask.Mask).Or -/
noncomputable def F262 (S : FS) (D : FD) (args : List AV) (h : Heap) : Option (Bool × AV × Heap) :=
 kv2 args fun m_1 o_2 =>
 knt m_1 (Heap.pushK h (.cells (AV.cells m_1) true 98) fun h3 =>
 knt o_2 (Heap.pushK h3 (.cells (AV.cells o_2) true 98) fun h4 =>
 Heap.pushK h4 (.cells [(.int .u64 (.ofNat 0)), (.int .u64 (.ofNat 0)), (.int .u64 (.ofNat 0)), (.int .u64 (.ofNat 0))] true 98) fun h5 =>
 ob (kloadN 4 h5 (.ptr (Heap.next h) 0)) fun v6 =>
 ob (kloadN 4 h5 (.ptr (Heap.next h3) 0)) fun v7 =>
 ob (S 146 [v6, v7, (.func 331 [])] h5) fun r8 => kres r8 (fun v9 h10 =>
 ob (kstore 4 (.ptr (Heap.next h4) 0) v9 h10) fun h13 =>
 ob (kloadN 4 h13 (.ptr (Heap.next h4) 0)) fun v14 => (some (false, v14, h13))) (fun p11 h12 => (some (true, p11, h12)))))
theorem F262_ok {S : FS} {D : FD} (hS : SpecsOK Tryz.prog S) (hD : DynOK Tryz.prog D) : SpecOK Tryz.prog 262 (F262 S D) :=
  SpecOK.of (c := match Tryz.f262.body with | some c => c | none => .skip) (by kernel_rfl) hS hD ⟨Tryz.func262, rfl, by decide⟩
    (.seq .n (.seq .n .n)) 2 (fun args h => by kernel_rfl)
/-- (*roundhouse/pool.Pool).Take -/
noncomputable def F263 (S : FS) (D : FD) (args : List AV) (h : Heap) : Option (Bool × AV × Heap) :=
 kv3 args fun p_1 owner_2 m_3 =>
 knt m_3 (Heap.pushK h (.cells (AV.cells m_3) true 98) fun h4 =>
 ob (S 332 [p_1, owner_2] h4) fun r5 => kres r5 (fun v6 h7 =>
 ob (kbinI .eql v6 (.int .i64 (.ofNat 1))) fun v10 =>
 ob (kgv false v10 (kloadN 4 h7 (.ptr (Heap.next h) 0))) fun v11 =>
 ob (kgv false v10 (abuild Tryz.prog 98 [])) fun v12 =>
 ob (kgv false v10 (kbinO Tryz.prog .eql 98 false v11 v12)) fun v13 =>
 ob (kpick v10 (.bool true) v13) fun v14 =>
 kif v14
  ((some (false, (.int .i64 (.ofNat 1)), h7)))
  (ob (kbinI .neq v6 (.int .i64 (.ofNat 0))) fun v15 =>
  kif v15
   ((some (false, v6, h7)))
   (ob (kloadN 4 h7 (.ptr (Heap.next h) 0)) fun v16 =>
   ob (abuild Tryz.prog 98 []) fun v17 =>
   ob (S 61 [p_1] h7) fun r18 => kres r18 (fun v19 h20 =>
   kre (kloadN 4 h20 (.ptr (Heap.next h) 0)) v16 (ob (S 104 [v16, v19] h20) fun r23 => kres r23 (fun v24 h25 =>
   ob (kbinO Tryz.prog .neq 98 false v24 v17) fun v28 =>
   kif v28
    ((some (false, (.int .i64 (.ofNat 12)), h25)))
    (ob (knil p_1) fun v29 =>
    ob (kfa 2 v29) fun v30 =>
    ob (kload h25 v30) fun v31 =>
    ob (kloadN 4 h25 (.ptr (Heap.next h) 0)) fun v32 =>
    ob (abuild Tryz.prog 205 [(0, v32), (1, (.bool true))]) fun v33 =>
    ob (amapSet Tryz.prog h25 201 v31 owner_2 v33) fun h34 =>
    (some (false, (.int .i64 (.ofNat 0)), h34)))) (fun p26 h27 => none))) (fun p21 h22 => none)))) (fun p8 h9 => (some (true, p8, h9))))
theorem F263_ok {S : FS} {D : FD} (hS : SpecsOK Tryz.prog S) (hD : DynOK Tryz.prog D) : SpecOK Tryz.prog 263 (F263 S D) :=
  SpecOK.of (c := match Tryz.f263.body with | some c => c | none => .skip) (by kernel_rfl) hS hD ⟨Tryz.func263, rfl, by decide⟩
    (.seq .n (.seq .n (.seq (.one (.seq .n (.dup (.seq .n .n) (.seq .n (.dup (.seq .n .n) (.seq .n (.dup (.seq .n .n) .n))))))) (.seq .n (.seq .n .n))))) 3 (fun args h => by kernel_rfl)
/-- (*roundhouse/agent.Agent).start -/
noncomputable def F264 (S : FS) (D : FD) (args : List AV) (h : Heap) : Option (Bool × AV × Heap) :=
 kv2 args fun a_1 pids_2 =>
 ob (klenL pids_2) fun v3 =>
 ob (iterD (fun vs4 ds5 h6 => kv4 vs4 fun a_7 v8 v9 v10 =>
  ob (kbinI .lss v10 v9) fun v11 =>
  kif v11
   (ob (kia 1 v8 v10) fun v12 =>
   ob (kload h6 v12) fun v13 =>
   ob (knil a_7) fun v14 =>
   ob (kfa 0 v14) fun v15 =>
   ob (kfa 1 v15) fun v16 =>
   ob (kload h6 v16) fun v17 =>
   ob (S 333 [v17, v13] h6) fun r18 => kres r18 (fun v19 h20 =>
   ob (kbinI .eql v19 (.int .i64 (.ofNat 0))) fun v23 =>
   ob (kif v23
    (ob (knil a_7) fun v25 =>
    ob (kfa 0 v25) fun v26 =>
    ob (kfa 3 v26) fun v27 =>
    ob (kload h20 v27) fun v28 =>
    ob (knil a_7) fun v29 =>
    ob (kfa 0 v29) fun v30 =>
    ob (kfa 4 v30) fun v31 =>
    ob (kload h20 v31) fun v32 =>
    ob (knil a_7) fun v33 =>
    ob (kfa 0 v33) fun v34 =>
    ob (kfa 3 v34) fun v35 =>
    ob (kload h20 v35) fun v36 =>
    ob (alookup Tryz.prog h20 77 v36 v13 false) fun v37 =>
    ob (kfield false 1 1 v37) fun v38 =>
    ob (abuild Tryz.prog 337 [(0, v32), (1, v38)]) fun v39 =>
    ob (amapSet Tryz.prog h20 77 v28 v13 v39) fun h40 =>
    (some ⟨0, [a_7, v8, v9, v10], ds5, h40⟩))
    ((some ⟨0, [a_7, v8, v9, v10], ds5, h20⟩))) fun r24 => kcase (J.i r24) [kv4 (J.vs r24) fun a_41 v42 v43 v44 =>
    ob (kbinI .add v44 (.int .i64 (.ofNat 1))) fun v45 =>
    (some ⟨0, [a_41, v42, v43, v45], (J.ds r24), (J.h r24)⟩)]) (fun p21 h22 => (some ⟨2, [p21], ds5, h22⟩)))
   ((some ⟨1, [], ds5, h6⟩))) rounds [a_1, pids_2, v3, (.int .i64 (.ofNat 0))] [] h) fun r46 => kcase (J.i r46) [kv0 (J.vs r46) ((dleave (fun h47 => (some (false, (.tuple []), h47))) (J.ds r46) (J.h r46))),
 kv1 (J.vs r46) fun p48 => (kds (J.ds r46) (some (true, p48, (J.h r46))))]
theorem F264_ok {S : FS} {D : FD} (hS : SpecsOK Tryz.prog S) (hD : DynOK Tryz.prog D) : SpecOK Tryz.prog 264 (F264 S D) :=
  SpecOK.of (c := match Tryz.f264.body with | some c => c | none => .skip) (by kernel_rfl) hS hD ⟨Tryz.func264, rfl, by decide⟩
    (.seq .n (.one (.loop [0, 6, 7, 8] [(.exit 0, []), (.pan, [])] (.seq .n (.seq (.dup .n .n) (.seq (.one (.seq .n (.seq .n (.join [(.norm, [0, 6, 7, 8])] (.dup .n .n))))) .n)))))) 2 (fun args h => by kernel_rfl)
/-- roundhouse/node.Exit -/
noncomputable def F265 (S : FS) (D : FD) (args : List AV) (h : Heap) : Option (Bool × AV × Heap) :=
 kv4 args fun id_1 s_2 at_3 codes_4 =>
 knt s_2 (Heap.pushK h (.cells (AV.cells s_2) true 85) fun h5 =>
 knt at_3 (Heap.pushK h5 (.cells (AV.cells at_3) true 167) fun h6 =>
 Heap.pushK h6 (.cells [(.bool false), (.int .i64 (.ofNat 0)), (.int .i64 (.ofNat 0)), (.int .i64 (.ofNat 0)), (.int .i64 (.ofNat 0)), (.int .i64 (.ofNat 0)), AV.nilslice, (.bool false), (.int .i64 (.ofNat 0)), (.int .i64 (.ofNat 0)), (.int .i64 (.ofNat 0)), (.int .i64 (.ofNat 0)), (.int .i64 (.ofNat 0)), (.int .i64 (.ofNat 0)), (.int .i64 (.ofNat 0)), (.str 0 0), (.bool false), (.bool false), (.bool false)] true 362) fun h7 =>
 ob (S 307 [id_1, (.int .i64 (.ofNat 0)), (.int .i64 (.ofNat 15))] h7) fun r8 => kres r8 (fun v9 h10 =>
 ob (aun .not v9) fun v13 =>
 ob (kgv false v13 (some codes_4)) fun v14 =>
 ob (kgv false v13 (klenL v14)) fun v15 =>
 ob (kgv false v13 (kbinI .eql v15 (.int .i64 (.ofNat 0)))) fun v16 =>
 ob (kpick v13 (.bool true) v16) fun v17 =>
 ob (kgv false v17 (some codes_4)) fun v18 =>
 ob (kgv false v17 (some (.func 334 []))) fun v19 =>
 ob (kgc false v17 h10 (S 169 [v18, v19] h10)) fun r20 => kres r20 (fun v21 h22 =>
 ob (kpick v17 (.bool true) v21) fun v25 =>
 kif v25
  (ob (abuild Tryz.prog 362 []) fun v26 =>
  ob (kstore 19 (.ptr (Heap.next h6) 0) v26 h22) fun h27 =>
  ob (kloadN 19 h27 (.ptr (Heap.next h6) 0)) fun v28 => (some (false, (.tuple [v28, (.int .i64 (.ofNat 1))]), h27)))
  (ob (kloadN 3 h22 (.ptr (Heap.next h) 0)) fun v29 =>
  ob (kfa 1 (.ptr (Heap.next h5) 0)) fun v30 =>
  ob (kload h22 v30) fun v31 =>
  ob (kfa 2 (.ptr (Heap.next h5) 0)) fun v32 =>
  ob (kload h22 v32) fun v33 =>
  ob (kfa 3 (.ptr (Heap.next h5) 0)) fun v34 =>
  ob (kload h22 v34) fun v35 =>
  ob (abuild Tryz.prog 300 [(3, v31), (4, v33), (5, v35)]) fun v36 =>
  ob (S 306 [id_1, v29, v36] h22) fun r37 => kres r37 (fun v38 h39 =>
  ob (S 321 [v38, (.int .i64 (.ofNat 1))] h39) fun r42 => kres r42 (fun v43 h44 =>
  ob (aun .not v43) fun v47 =>
  kif v47
   (ob (abuild Tryz.prog 362 []) fun v48 =>
   ob (kstore 19 (.ptr (Heap.next h6) 0) v48 h44) fun h49 =>
   ob (kloadN 19 h49 (.ptr (Heap.next h6) 0)) fun v50 => (some (false, (.tuple [v50, (.int .i64 (.ofNat 14))]), h49)))
   (ob (S 335 [codes_4] h44) fun r51 => kres r51 (fun v52 h53 =>
   ob (S 337 [v38, (.int .i64 (.ofNat 5)), v52] h53) fun r56 => kres r56 (fun v57 h58 =>
   ob (S 336 [v38, v57, (.int .i64 (.ofNat 6)), v52] h58) fun r61 => kres r61 (fun v62 h63 =>
   ob (kstore 19 (.ptr (Heap.next h6) 0) v62 h63) fun h66 =>
   ob (kloadN 19 h66 (.ptr (Heap.next h6) 0)) fun v67 => (some (false, (.tuple [v67, (.int .i64 (.ofNat 0))]), h66))) (fun p64 h65 => (some (true, p64, h65)))) (fun p59 h60 => (some (true, p59, h60)))) (fun p54 h55 => (some (true, p54, h55))))) (fun p45 h46 => (some (true, p45, h46)))) (fun p40 h41 => (some (true, p40, h41))))) (fun p23 h24 => (some (true, p23, h24)))) (fun p11 h12 => (some (true, p11, h12)))))
theorem F265_ok {S : FS} {D : FD} (hS : SpecsOK Tryz.prog S) (hD : DynOK Tryz.prog D) : SpecOK Tryz.prog 265 (F265 S D) :=
  SpecOK.of (c := match Tryz.f265.body with | some c => c | none => .skip) (by kernel_rfl) hS hD ⟨Tryz.func265, rfl, by decide⟩
    (.seq .n (.seq .n (.seq (.seq .n (.dup (.seq .n .n) .n)) (.seq .n (.seq (.seq .n (.dup (.seq .n .n) .n)) (.seq .n (.seq .n .n))))))) 4 (fun args h => by kernel_rfl)
/-- (*roundhouse/pool.Pool).Release -/
noncomputable def F266 (S : FS) (D : FD) (args : List AV) (h : Heap) : Option (Bool × AV × Heap) :=
 kv2 args fun p_1 owner_2 =>
 ob (kbinO Tryz.prog .eql 86 true p_1 AV.nilptr) fun v3 =>
 kif v3
  ((some (false, (.int .i64 (.ofNat 1)), h)))
  (ob (knil p_1) fun v4 =>
  ob (kfa 2 v4) fun v5 =>
  ob (kload h v5) fun v6 =>
  ob (alookup Tryz.prog h 201 v6 owner_2 true) fun v7 =>
  ob (aextract v7 0) fun v8 =>
  ob (aextract v7 1) fun v9 =>
  Heap.pushK h (.cells [(.int .u64 (.ofNat 0)), (.int .u64 (.ofNat 0)), (.int .u64 (.ofNat 0)), (.int .u64 (.ofNat 0)), (.bool false)] true 205) fun h10 =>
  ob (kstore 5 (.ptr (Heap.next h) 0) v8 h10) fun h11 =>
  ob (aun .not v9) fun v12 =>
  kif v12
   ((some (false, (.int .i64 (.ofNat 14)), h11)))
   (ob (knil p_1) fun v13 =>
   ob (kfa 2 v13) fun v14 =>
   ob (kload h11 v14) fun v15 =>
   ob (amapDel Tryz.prog h11 201 v15 owner_2) fun h16 =>
   (some (false, (.int .i64 (.ofNat 0)), h16))))
theorem F266_ok {S : FS} {D : FD} (hS : SpecsOK Tryz.prog S) (hD : DynOK Tryz.prog D) : SpecOK Tryz.prog 266 (F266 S D) :=
  SpecOK.of (c := match Tryz.f266.body with | some c => c | none => .skip) (by kernel_rfl) hS hD ⟨Tryz.func266, rfl, by decide⟩
    (.seq .n (.seq (.seq .n (.dup (.seq .n .n) .n)) (.seq (.seq .n (.seq .n (.dup (.seq .n .n) .n))) (.seq .n (.seq .n .n))))) 2 (fun args h => by kernel_rfl)
/-- slices.Backward[[]int,int] -/
noncomputable def F267 (S : FS) (D : FD) (args : List AV) (h : Heap) : Option (Bool × AV × Heap) :=
 kv1 args fun s_1 =>
 knt s_1 (Heap.pushK h (.cells (AV.cells s_1) true 37) fun h2 =>
 (some (false, (.func 338 [(.ptr (Heap.next h) 0)]), h2)))
theorem F267_ok {S : FS} {D : FD} (hS : SpecsOK Tryz.prog S) (hD : DynOK Tryz.prog D) : SpecOK Tryz.prog 267 (F267 S D) :=
  SpecOK.of (c := match Tryz.f267.body with | some c => c | none => .skip) (by kernel_rfl) hS hD ⟨Tryz.func267, rfl, by decide⟩
    (.seq .n (.seq .n .n)) 1 (fun args h => by kernel_rfl)
/-- (*roundhouse/tally.Tally).Code -/
noncomputable def F268 (S : FS) (D : FD) (args : List AV) (h : Heap) : Option (Bool × AV × Heap) :=
 kv1 args fun t_1 =>
 ob (S 41 [t_1] h) fun r2 => kres r2 (fun v3 h4 =>
 ob (kbinI .neq v3 (.int .i64 (.ofNat 3))) fun v7 =>
 kif v7
  ((some (false, (.int .i64 (.ofNat 0)), h4)))
  (ob (knil t_1) fun v8 =>
  ob (kfa 0 v8) fun v9 =>
  ob (kload h4 v9) fun v10 =>
  ob (klenL v10) fun v11 =>
  ob (iterD (fun vs12 ds13 h14 => kv5 vs12 fun t_15 codes_16 v17 v18 v19 =>
   ob (kbinI .lss v19 v18) fun v20 =>
   kif v20
    (ob (kia 1 v17 v19) fun v21 =>
    ob (kload h14 v21) fun v22 =>
    ob (knil t_15) fun v23 =>
    ob (kfa 2 v23) fun v24 =>
    ob (kload h14 v24) fun v25 =>
    ob (alookup Tryz.prog h14 181 v25 v22 false) fun v26 =>
    ob (knil v26) fun v27 =>
    ob (kload h14 v27) fun v28 =>
    ob (abuildSlice Tryz.prog 37 1 [(0, v28)]) fun r29 => Heap.pushK h14 (.cells r29.1 true r29.2.2) fun h30 =>
    ob (aappend Tryz.prog h30 37 37 codes_16 (.slice (Heap.next h14) 0 1 1 r29.2.1)) fun r31 =>
    ob (kbinI .add v19 (.int .i64 (.ofNat 1))) fun v32 =>
    (some ⟨0, [t_15, r31.1, v17, v18, v32], ds13, r31.2⟩))
    ((some ⟨1, [codes_16], ds13, h14⟩))) rounds [t_1, AV.nilslice, v10, v11, (.int .i64 (.ofNat 0))] [] h4) fun r33 => kcase (J.i r33) [kv1 (J.vs r33) fun codes_34 =>
   ob (S 335 [codes_34] (J.h r33)) fun r35 => kres r35 (fun v36 h37 =>
   (dleave (fun h40 => (some (false, v36, h40))) (J.ds r33) h37)) (fun p38 h39 => (kds (J.ds r33) (some (true, p38, h39))))])) (fun p5 h6 => (some (true, p5, h6)))
theorem F268_ok {S : FS} {D : FD} (hS : SpecsOK Tryz.prog S) (hD : DynOK Tryz.prog D) : SpecOK Tryz.prog 268 (F268 S D) :=
  SpecOK.of (c := match Tryz.f268.body with | some c => c | none => .skip) (by kernel_rfl) hS hD ⟨Tryz.func268, rfl, by decide⟩
    (.seq .n (.seq (.seq .n (.dup (.seq .n .n) .n)) (.seq .n (.seq (.seq .n (.one (.loop [0, 3, 12, 13, 14] [(.exit 0, [3])] (.seq .n (.seq (.dup .n .n) (.seq (.one (.seq .n .n)) .n)))))) (.seq .n .n))))) 1 (fun args h => by kernel_rfl)
/-- roundhouse/dag.Settle -/
noncomputable def F269 (S : FS) (D : FD) (args : List AV) (h : Heap) : Option (Bool × AV × Heap) :=
 kv2 args fun l_1 codes_2 =>
 knt codes_2 (Heap.pushK h (.cells (AV.cells codes_2) true 37) fun h3 =>
 ob (kload h3 (.ptr (Heap.next h) 0)) fun v4 =>
 ob (S 339 [l_1, v4] h3) fun r5 => kres r5 (fun v6 h7 =>
 ob (kbinI .neq v6 (.int .i64 (.ofNat 0))) fun v10 =>
 kif v10
  ((some (false, (.tuple [AV.nilslice, v6]), h7)))
  (ob (kload h7 (.ptr (Heap.next h) 0)) fun v11 =>
  ob (S 40 [v11] h7) fun r12 => kres r12 (fun v13 h14 =>
  ob (kstore 1 (.ptr (Heap.next h) 0) v13 h14) fun h17 =>
  ob (S 226 [l_1] h17) fun r18 => kres r18 (fun v19 h20 =>
  ob (klenL v19) fun v23 =>
  ob (iterD (fun vs24 ds25 h26 => kv5 vs24 fun l_27 codes_28 v29 v30 v31 =>
   ob (kbinI .lss v31 v30) fun v32 =>
   kif v32
    (ob (kia 1 v29 v31) fun v33 =>
    ob (kload h26 v33) fun v34 =>
    ob (kload h26 codes_28) fun v35 =>
    ob (kia 1 v35 v34) fun v36 =>
    ob (kload h26 v36) fun v37 =>
    ob (kbinI .eql v37 (.int .i64 (.negSucc 0))) fun v38 =>
    ob (kgv true v38 (some l_27)) fun v39 =>
    ob (kgv true v38 (some v34)) fun v40 =>
    ob (kgv true v38 (kia 5 v39 v40)) fun v41 =>
    ob (kgv true v38 (kfa 4 v41)) fun v42 =>
    ob (kgv true v38 (kload h26 v42)) fun v43 =>
    ob (kgv true v38 (some (.func 340 [codes_28]))) fun v44 =>
    ob (kgc true v38 h26 (S 342 [v43, v44] h26)) fun r45 => kres r45 (fun v46 h47 =>
    ob (kpick v38 v46 (.bool false)) fun v50 =>
    ob (kif v50
     (ob (kload h47 codes_28) fun v52 =>
     ob (kia 1 v52 v34) fun v53 =>
     ob (kstore 1 v53 (.int .i64 (.ofNat 256)) h47) fun h54 =>
     (some ⟨0, [l_27, codes_28, v29, v30, v31], ds25, h54⟩))
     ((some ⟨0, [l_27, codes_28, v29, v30, v31], ds25, h47⟩))) fun r51 => kcase (J.i r51) [kv5 (J.vs r51) fun l_55 codes_56 v57 v58 v59 =>
     ob (kbinI .add v59 (.int .i64 (.ofNat 1))) fun v60 =>
     (some ⟨0, [l_55, codes_56, v57, v58, v60], (J.ds r51), (J.h r51)⟩)]) (fun p48 h49 => (some ⟨2, [p48], ds25, h49⟩)))
    ((some ⟨1, [codes_28], ds25, h26⟩))) rounds [l_1, (.ptr (Heap.next h) 0), v19, v23, (.int .i64 (.ofNat 0))] [] h20) fun r61 => kcase (J.i r61) [kv1 (J.vs r61) fun codes_62 =>
   ob (kload (J.h r61) codes_62) fun v63 =>
   (dleave (fun h64 => (some (false, (.tuple [v63, (.int .i64 (.ofNat 0))]), h64))) (J.ds r61) (J.h r61)),
  kv1 (J.vs r61) fun p65 => (kds (J.ds r61) (some (true, p65, (J.h r61))))]) (fun p21 h22 => (some (true, p21, h22)))) (fun p15 h16 => (some (true, p15, h16))))) (fun p8 h9 => (some (true, p8, h9))))
theorem F269_ok {S : FS} {D : FD} (hS : SpecsOK Tryz.prog S) (hD : DynOK Tryz.prog D) : SpecOK Tryz.prog 269 (F269 S D) :=
  SpecOK.of (c := match Tryz.f269.body with | some c => c | none => .skip) (by kernel_rfl) hS hD ⟨Tryz.func269, rfl, by decide⟩
    (.seq .n (.seq (.seq .n (.seq .n (.dup (.seq .n .n) .n))) (.seq .n (.seq (.seq .n (.one (.loop [0, 3, 19, 20, 21] [(.exit 0, [3]), (.pan, [])] (.seq .n (.seq (.dup .n .n) (.seq (.one (.seq .n (.seq .n (.seq .n (.join [(.norm, [0, 3, 19, 20, 21])] (.dup .n .n)))))) .n)))))) (.seq .n .n))))) 2 (fun args h => by kernel_rfl)
/-- roundhouse/dag.Ready -/
noncomputable def F270 (S : FS) (D : FD) (args : List AV) (h : Heap) : Option (Bool × AV × Heap) :=
 kv2 args fun l_1 codes_2 =>
 ob (S 339 [l_1, codes_2] h) fun r3 => kres r3 (fun v4 h5 =>
 ob (kbinI .neq v4 (.int .i64 (.ofNat 0))) fun v8 =>
 kif v8
  ((some (false, (.tuple [AV.nilslice, v4]), h5)))
  (ob (klenL l_1) fun v9 =>
  ob (iterD (fun vs10 ds11 h12 => kv5 vs10 fun codes_13 ready_14 v15 v16 v17 =>
   ob (kbinI .lss v17 v16) fun v18 =>
   kif v18
    (ob (ob (kia 5 v15 v17) fun v20 =>
     ob (kloadN 5 h12 v20) fun v21 =>
     Heap.pushK h12 (.cells [(.int .i64 (.ofNat 0)), (.int .i64 (.ofNat 0)), (.int .i64 (.ofNat 0)), (.int .i64 (.ofNat 0)), AV.nilslice] true 64) fun h22 =>
     ob (kstore 5 (.ptr (Heap.next h12) 0) v21 h22) fun h23 =>
     ob (kia 1 codes_13 v17) fun v24 =>
     ob (kload h23 v24) fun v25 =>
     ob (kbinI .neq v25 (.int .i64 (.negSucc 0))) fun v26 =>
     kif v26
      ((some ⟨0, [codes_13, ready_14, v15, v16, v17], ds11, h23⟩))
      (ob (kfa 4 (.ptr (Heap.next h12) 0)) fun v27 =>
      ob (kload h23 v27) fun v28 =>
      ob (klenL v28) fun v29 =>
      ob (iterD (fun vs30 ds31 h32 => kv9 vs30 fun codes_33 ready_34 i_35 v36 v37 v38 v39 v40 v41 =>
       ob (kbinI .lss v41 v40) fun v42 =>
       kif v42
        (ob (kia 2 v39 v41) fun v43 =>
        ob (kloadN 2 h32 v43) fun v44 =>
        Heap.pushK h32 (.cells [(.int .i64 (.ofNat 0)), (.int .i64 (.ofNat 0))] true 231) fun h45 =>
        ob (kstore 2 (.ptr (Heap.next h32) 0) v44 h45) fun h46 =>
        ob (kloadN 2 h46 (.ptr (Heap.next h32) 0)) fun v47 =>
        ob (S 341 [v47, codes_33] h46) fun r48 => kres r48 (fun v49 h50 =>
        ob (aun .not v49) fun v53 =>
        kif v53
         ((some ⟨1, [codes_33, ready_34, v36, v37, v38], ds31, h50⟩))
         (ob (kbinI .add v41 (.int .i64 (.ofNat 1))) fun v54 =>
         (some ⟨0, [codes_33, ready_34, i_35, v36, v37, v38, v39, v40, v54], ds31, h50⟩))) (fun p51 h52 => (some ⟨3, [p51], ds31, h52⟩)))
        ((some ⟨2, [codes_33, ready_34, i_35, v36, v37, v38], ds31, h32⟩))) rounds [codes_13, ready_14, v17, v15, v16, v17, v28, v29, (.int .i64 (.ofNat 0))] ds11 h23) fun r55 => kcase (J.i r55) [kv5 (J.vs r55) fun codes_56 ready_57 v58 v59 v60 =>
       (some ⟨0, [codes_56, ready_57, v58, v59, v60], (J.ds r55), (J.h r55)⟩),
      kv6 (J.vs r55) fun codes_61 ready_62 i_63 v64 v65 v66 =>
       ob (abuildSlice Tryz.prog 37 1 [(0, i_63)]) fun r67 => Heap.pushK (J.h r55) (.cells r67.1 true r67.2.2) fun h68 =>
       ob (aappend Tryz.prog h68 37 37 ready_62 (.slice (Heap.next (J.h r55)) 0 1 1 r67.2.1)) fun r69 =>
       (some ⟨0, [codes_61, r69.1, v64, v65, v66], (J.ds r55), r69.2⟩),
      kv1 (J.vs r55) fun p70 => (some ⟨1, [p70], (J.ds r55), (J.h r55)⟩)])) fun r19 => kcase (J.i r19) [kv5 (J.vs r19) fun codes_71 ready_72 v73 v74 v75 =>
     ob (kbinI .add v75 (.int .i64 (.ofNat 1))) fun v76 =>
     (some ⟨0, [codes_71, ready_72, v73, v74, v76], (J.ds r19), (J.h r19)⟩),
    kv1 (J.vs r19) fun p77 => (some ⟨2, [p77], (J.ds r19), (J.h r19)⟩)])
    ((some ⟨1, [ready_14], ds11, h12⟩))) rounds [codes_2, AV.nilslice, l_1, v9, (.int .i64 (.ofNat 0))] [] h5) fun r78 => kcase (J.i r78) [kv1 (J.vs r78) fun ready_79 =>
   (dleave (fun h80 => (some (false, (.tuple [ready_79, (.int .i64 (.ofNat 0))]), h80))) (J.ds r78) (J.h r78)),
  kv1 (J.vs r78) fun p81 => (kds (J.ds r78) (some (true, p81, (J.h r78))))])) (fun p6 h7 => (some (true, p6, h7)))
theorem F270_ok {S : FS} {D : FD} (hS : SpecsOK Tryz.prog S) (hD : DynOK Tryz.prog D) : SpecOK Tryz.prog 270 (F270 S D) :=
  SpecOK.of (c := match Tryz.f270.body with | some c => c | none => .skip) (by kernel_rfl) hS hD ⟨Tryz.func270, rfl, by decide⟩
    (.seq .n (.one (.seq (.seq .n (.seq .n (.dup (.seq .n .n) .n))) (.seq .n (.seq .n (.seq (.seq .n (.one (.loop [1, 7, 18, 19, 20] [(.exit 0, [7]), (.pan, [])] (.seq .n (.seq (.dup .n .n) (.seq (.join [(.norm, [1, 7, 18, 19, 20]), (.pan, [])] (.one (.seq .n (.seq (.seq .n (.dup .n .n)) (.seq (.seq .n (.one (.loop [1, 7, 8, 18, 19, 20, 31, 32, 33] [(.exit 1, [1, 7, 18, 19, 20]), (.exit 2, [1, 7, 8, 18, 19, 20]), (.pan, [])] (.seq .n (.seq (.dup .n .n) (.seq (.one (.seq .n (.seq .n (.dup .n .n)))) .n)))))) .n))))) .n)))))) (.seq .n .n))))))) 2 (fun args h => by kernel_rfl)
/-- roundhouse/dag.Over -/
noncomputable def F271 (S : FS) (D : FD) (args : List AV) (h : Heap) : Option (Bool × AV × Heap) :=
 kv2 args fun l_1 codes_2 =>
 ob (S 269 [l_1, codes_2] h) fun r3 => kres r3 (fun v4 h5 =>
 ob (aextract v4 0) fun v8 =>
 ob (aextract v4 1) fun v9 =>
 ob (kbinI .neq v9 (.int .i64 (.ofNat 0))) fun v10 =>
 ob (kgv false v10 (some v8)) fun v11 =>
 ob (kgc false v10 h5 (S 114 [v11, (.int .i64 (.negSucc 0))] h5)) fun r12 => kres r12 (fun v13 h14 =>
 ob (kpick v10 (.bool true) v13) fun v17 =>
 kif v17
  ((some (false, (.tuple [(.int .i64 (.ofNat 0)), (.bool false)]), h14)))
  (ob (klenL v8) fun v18 =>
  ob (iterD (fun vs19 ds20 h21 => kv4 vs19 fun most_22 v23 v24 v25 =>
   ob (kbinI .lss v25 v24) fun v26 =>
   kif v26
    (ob (kia 1 v23 v25) fun v27 =>
    ob (kload h21 v27) fun v28 =>
    ob (kbinI .neq v28 (.int .i64 (.ofNat 256))) fun v29 =>
    ob (kif v29
     (ob (amaxs true [most_22, v28]) fun v31 =>
     (some ⟨0, [v31, v23, v24, v25], ds20, h21⟩))
     ((some ⟨0, [most_22, v23, v24, v25], ds20, h21⟩))) fun r30 => kcase (J.i r30) [kv4 (J.vs r30) fun most_32 v33 v34 v35 =>
     ob (kbinI .add v35 (.int .i64 (.ofNat 1))) fun v36 =>
     (some ⟨0, [most_32, v33, v34, v36], (J.ds r30), (J.h r30)⟩)])
    ((some ⟨1, [most_22], ds20, h21⟩))) rounds [(.int .i64 (.ofNat 0)), v8, v18, (.int .i64 (.ofNat 0))] [] h14) fun r37 => kcase (J.i r37) [kv1 (J.vs r37) fun most_38 =>
   (dleave (fun h39 => (some (false, (.tuple [most_38, (.bool true)]), h39))) (J.ds r37) (J.h r37))])) (fun p15 h16 => (some (true, p15, h16)))) (fun p6 h7 => (some (true, p6, h7)))
theorem F271_ok {S : FS} {D : FD} (hS : SpecsOK Tryz.prog S) (hD : DynOK Tryz.prog D) : SpecOK Tryz.prog 271 (F271 S D) :=
  SpecOK.of (c := match Tryz.f271.body with | some c => c | none => .skip) (by kernel_rfl) hS hD ⟨Tryz.func271, rfl, by decide⟩
    (.seq .n (.seq .n (.seq (.seq .n (.dup (.seq .n .n) .n)) (.seq .n (.seq (.seq .n (.one (.loop [7, 22, 23, 24] [(.exit 0, [7])] (.seq .n (.seq (.dup .n .n) (.seq (.one (.seq .n (.seq .n (.join [(.norm, [7, 22, 23, 24])] (.dup .n .n))))) .n)))))) (.seq .n .n)))))) 2 (fun args h => by kernel_rfl)
/-- (*roundhouse/ctl.job).finish -/
noncomputable def F272 (S : FS) (D : FD) (args : List AV) (h : Heap) : Option (Bool × AV × Heap) :=
 kv3 args fun x_1 fate_2 code_3 =>
 ob (knil x_1) fun v4 =>
 ob (kfa 4 v4) fun v5 =>
 ob (kstore 1 v5 (.int .i64 (.ofNat 2)) h) fun h6 =>
 ob (knil x_1) fun v7 =>
 ob (kfa 5 v7) fun v8 =>
 ob (kstore 1 v8 fate_2 h6) fun h9 =>
 ob (knil x_1) fun v10 =>
 ob (kfa 6 v10) fun v11 =>
 ob (kstore 1 v11 code_3 h9) fun h12 =>
 (some (false, (.tuple []), h12))
theorem F272_ok {S : FS} {D : FD} (hS : SpecsOK Tryz.prog S) (hD : DynOK Tryz.prog D) : SpecOK Tryz.prog 272 (F272 S D) :=
  SpecOK.of (c := match Tryz.f272.body with | some c => c | none => .skip) (by kernel_rfl) hS hD ⟨Tryz.func272, rfl, by decide⟩
    .n 3 (fun args h => by kernel_rfl)
/-- (*roundhouse/wire.Reader).Text$1 -/
noncomputable def F273 (S : FS) (D : FD) (args : List AV) (h : Heap) : Option (Bool × AV × Heap) :=
 kv2 args fun v1 v2 =>
 ob (kload h v1) fun v3 =>
 ob (S 154 [v3, (.int .i64 (.ofNat 4096))] h) fun r4 => kres r4 (fun v5 h6 =>
 ob (kload h6 v1) fun v9 =>
 ob (kload h6 v1) fun v10 =>
 ob (knil v10) fun v11 =>
 ob (kfa 1 v11) fun v12 =>
 ob (kload h6 v12) fun v13 =>
 ob (S 210 [v9, v5, v13] h6) fun r14 => kres r14 (fun v15 h16 =>
 ob (kstore 1 v2 v15 h16) fun h19 =>
 (some (false, (.tuple []), h19))) (fun p17 h18 => (some (true, p17, h18)))) (fun p7 h8 => (some (true, p7, h8)))
theorem F273_ok {S : FS} {D : FD} (hS : SpecsOK Tryz.prog S) (hD : DynOK Tryz.prog D) : SpecOK Tryz.prog 273 (F273 S D) :=
  SpecOK.of (c := match Tryz.f273.body with | some c => c | none => .skip) (by kernel_rfl) hS hD ⟨Tryz.func273, rfl, by decide⟩
    (.seq .n .n) 2 (fun args h => by kernel_rfl)
/-- roundhouse/sha.Of -/
noncomputable def F274 (S : FS) (D : FD) (args : List AV) (h : Heap) : Option (Bool × AV × Heap) :=
 kv1 args fun s_1 =>
 ob (kstrB s_1) fun r2 => Heap.pushK h (.cells r2.1 false 5) fun h3 =>
 ob (abuildSlice Tryz.prog 345 1 [(0, (.int .u8 (.ofNat 128)))]) fun r4 => Heap.pushK h3 (.cells r4.1 true r4.2.2) fun h5 =>
 ob (aappend Tryz.prog h5 345 345 (.slice (Heap.next h) 0 r2.2 r2.2 1) (.slice (Heap.next h3) 0 1 1 r4.2.1)) fun r6 =>
 ob (iterD (fun vs7 ds8 h9 => kv2 vs7 fun s_10 b_11 =>
  ob (klenL b_11) fun v12 =>
  ob (kbinI .rem v12 (.int .i64 (.ofNat 64))) fun v13 =>
  ob (kbinI .neq v13 (.int .i64 (.ofNat 56))) fun v14 =>
  kif v14
   (ob (abuildSlice Tryz.prog 345 1 [(0, (.int .u8 (.ofNat 0)))]) fun r15 => Heap.pushK h9 (.cells r15.1 true r15.2.2) fun h16 =>
   ob (aappend Tryz.prog h16 345 345 b_11 (.slice (Heap.next h9) 0 1 1 r15.2.1)) fun r17 =>
   (some ⟨0, [s_10, r17.1], ds8, r17.2⟩))
   ((some ⟨1, [s_10, b_11], ds8, h9⟩))) rounds [s_1, r6.1] [] r6.2) fun r18 => kcase (J.i r18) [kv2 (J.vs r18) fun s_19 b_20 =>
  ob (iterD (fun vs21 ds22 h23 => kv3 vs21 fun s_24 b_25 shift_26 =>
   ob (kbinI .geq shift_26 (.int .i64 (.ofNat 0))) fun v27 =>
   kif v27
    (ob (klenS s_24) fun v28 =>
    ob (kbinI .mul (.int .i64 (.ofNat 8)) v28) fun v29 =>
    ob (kbinI .shr v29 shift_26) fun v30 =>
    ob (kconvI .u8 v30) fun v31 =>
    ob (abuildSlice Tryz.prog 345 1 [(0, v31)]) fun r32 => Heap.pushK h23 (.cells r32.1 true r32.2.2) fun h33 =>
    ob (aappend Tryz.prog h33 345 345 b_25 (.slice (Heap.next h23) 0 1 1 r32.2.1)) fun r34 =>
    ob (kbinI .sub shift_26 (.int .i64 (.ofNat 8))) fun v35 =>
    (some ⟨0, [s_24, r34.1, v35], ds22, r34.2⟩))
    ((some ⟨1, [b_25], ds22, h23⟩))) rounds [s_19, b_20, (.int .i64 (.ofNat 56))] (J.ds r18) (J.h r18)) fun r36 => kcase (J.i r36) [kv1 (J.vs r36) fun b_37 =>
   ob (S 343 [] (J.h r36)) fun r38 => kres r38 (fun v39 h40 =>
   Heap.pushK h40 (.cells [(.int .u32 (.ofNat 0)), (.int .u32 (.ofNat 0)), (.int .u32 (.ofNat 0)), (.int .u32 (.ofNat 0)), (.int .u32 (.ofNat 0)), (.int .u32 (.ofNat 0)), (.int .u32 (.ofNat 0)), (.int .u32 (.ofNat 0))] true 447) fun h43 =>
   ob (kstore 8 (.ptr (Heap.next h40) 0) v39 h43) fun h44 =>
   ob (iterD (fun vs45 ds46 h47 => kv2 vs45 fun b_48 d_49 =>
    ob (klenL b_48) fun v50 =>
    ob (kbinI .gtr v50 (.int .i64 (.ofNat 0))) fun v51 =>
    kif v51
     (ob (aslice Tryz.prog 345 b_48 none (some (.int .i64 (.ofNat 64))) none) fun v52 =>
     ob (S 344 [d_49, v52] h47) fun r53 => kres r53 (fun v54 h55 =>
     ob (aslice Tryz.prog 345 b_48 (some (.int .i64 (.ofNat 64))) none none) fun v58 =>
     (some ⟨0, [v58, d_49], ds46, h55⟩)) (fun p56 h57 => (some ⟨2, [p56], ds46, h57⟩)))
     ((some ⟨1, [d_49], ds46, h47⟩))) rounds [b_37, (.ptr (Heap.next h40) 0)] (J.ds r36) h44) fun r59 => kcase (J.i r59) [kv1 (J.vs r59) fun d_60 =>
    ob (kloadN 8 (J.h r59) d_60) fun v61 =>
    ob (iterD (fun vs62 ds63 h64 => kv3 vs62 fun out_65 v66 v67 =>
     ob (kbinI .lss v67 (.int .i64 (.ofNat 8))) fun v68 =>
     kif v68
      (ob (kixA 8 false 1 v66 v67) fun v69 =>
      ob (kbinI .shr v69 (.int .u64 (.ofNat 24))) fun v70 =>
      ob (kconvI .u8 v70) fun v71 =>
      ob (kbinI .shr v69 (.int .u64 (.ofNat 16))) fun v72 =>
      ob (kconvI .u8 v72) fun v73 =>
      ob (kbinI .shr v69 (.int .u64 (.ofNat 8))) fun v74 =>
      ob (kconvI .u8 v74) fun v75 =>
      ob (kconvI .u8 v69) fun v76 =>
      ob (abuildSlice Tryz.prog 345 4 [(0, v71), (1, v73), (2, v75), (3, v76)]) fun r77 => Heap.pushK h64 (.cells r77.1 true r77.2.2) fun h78 =>
      ob (aappend Tryz.prog h78 345 345 out_65 (.slice (Heap.next h64) 0 4 4 r77.2.1)) fun r79 =>
      ob (kbinI .add v67 (.int .i64 (.ofNat 1))) fun v80 =>
      (some ⟨0, [r79.1, v66, v80], ds63, r79.2⟩))
      ((some ⟨1, [out_65], ds63, h64⟩))) rounds [AV.nilslice, v61, (.int .i64 (.ofNat 0))] (J.ds r59) (J.h r59)) fun r81 => kcase (J.i r81) [kv1 (J.vs r81) fun out_82 =>
     ob (kbytes (J.h r81) out_82) fun v83 =>
     (dleave (fun h84 => (some (false, v83, h84))) (J.ds r81) (J.h r81))],
   kv1 (J.vs r59) fun p85 => (kds (J.ds r59) (some (true, p85, (J.h r59))))]) (fun p41 h42 => (kds (J.ds r36) (some (true, p41, h42))))]]
theorem F274_ok {S : FS} {D : FD} (hS : SpecsOK Tryz.prog S) (hD : DynOK Tryz.prog D) : SpecOK Tryz.prog 274 (F274 S D) :=
  SpecOK.of (c := match Tryz.f274.body with | some c => c | none => .skip) (by kernel_rfl) hS hD ⟨Tryz.func274, rfl, by decide⟩
    (.seq .n (.seq .n (.seq (.one (.loop [0, 3] [(.exit 0, [0, 3])] (.seq (.seq .n (.dup .n .n)) (.one .n)))) (.seq (.seq .n (.one (.loop [0, 3, 4] [(.exit 2, [3])] (.seq (.seq .n (.dup .n .n)) (.seq (.one .n) .n))))) (.seq .n (.seq (.one (.loop [3, 5] [(.exit 4, [5]), (.pan, [])] (.seq (.seq .n (.dup .n .n)) (.seq (.one .n) .n)))) (.seq .n (.seq (.seq .n (.one (.loop [6, 42, 43] [(.exit 6, [6])] (.seq .n (.seq (.dup .n .n) (.seq (.one (.seq .n .n)) .n)))))) (.seq .n .n))))))))) 1 (fun args h => by kernel_rfl)
/-- (roundhouse/rec.State).newer -/
noncomputable def F275 (S : FS) (D : FD) (args : List AV) (h : Heap) : Option (Bool × AV × Heap) :=
 kv2 args fun s_1 r_2 =>
 knt s_1 (Heap.pushK h (.cells (AV.cells s_1) true 85) fun h3 =>
 knt r_2 (Heap.pushK h3 (.cells (AV.cells r_2) true 167) fun h4 =>
 ob (kfa 0 (.ptr (Heap.next h) 0)) fun v5 =>
 ob (kload h4 v5) fun v6 =>
 ob (S 345 [v6, (.func 346 [(.ptr (Heap.next h3) 0)])] h4) fun r7 => kres r7 (fun v8 h9 =>
 (some (false, v8, h9))) (fun p10 h11 => (some (true, p10, h11)))))
theorem F275_ok {S : FS} {D : FD} (hS : SpecsOK Tryz.prog S) (hD : DynOK Tryz.prog D) : SpecOK Tryz.prog 275 (F275 S D) :=
  SpecOK.of (c := match Tryz.f275.body with | some c => c | none => .skip) (by kernel_rfl) hS hD ⟨Tryz.func275, rfl, by decide⟩
    (.seq .n (.seq .n .n)) 2 (fun args h => by kernel_rfl)
/-- roundhouse/rec.begins$1 -/
noncomputable def F276 (S : FS) (D : FD) (args : List AV) (h : Heap) : Option (Bool × AV × Heap) :=
 kv3 args fun s_1 r_2 v3 =>
 knt r_2 (Heap.pushK h (.cells (AV.cells r_2) true 167) fun h4 =>
 ob (knil s_1) fun v5 =>
 ob (kloadN 3 h4 v5) fun v6 =>
 ob (kfa 1 (.ptr (Heap.next h) 0)) fun v7 =>
 ob (kload h4 v7) fun v8 =>
 ob (kfa 2 (.ptr (Heap.next h) 0)) fun v9 =>
 ob (kload h4 v9) fun v10 =>
 kfree h4 (Heap.pushK h4 (.cells [(.int .i64 (.ofNat 0)), (.int .i64 (.ofNat 0)), (.int .i64 (.ofNat 0))] true 153) fun h11 =>
 ob (S 277 [v6, v8, v10] h11) fun r12 => kres r12 (fun v13 h14 =>
 kro (Heap.next h4) h11 h14 (ob (aextract v13 0) fun v17 =>
 ob (aextract v13 1) fun v18 =>
 ob (kstore 3 (.ptr (Heap.next h4) 0) v17 h14) fun h19 =>
 ob (aun .not v18) fun v20 =>
 ob (kgv false v20 (kfa 2 (.ptr (Heap.next h4) 0))) fun v21 =>
 ob (kgv false v20 (kload h19 v21)) fun v22 =>
 ob (kgv false v20 (kbinI .neq v22 (.int .i64 (.ofNat 0)))) fun v23 =>
 ob (kpick v20 (.bool true) v23) fun v24 =>
 ob (kgv false v24 (some s_1)) fun v25 =>
 ob (kgv false v24 (knil v25)) fun v26 =>
 ob (kgv false v24 (kloadN 3 h19 v26)) fun v27 =>
 ob (kgv false v24 (kfa 1 (.ptr (Heap.next h) 0))) fun v28 =>
 ob (kgv false v24 (kload h19 v28)) fun v29 =>
 ob (kgv false v24 (kfa 2 (.ptr (Heap.next h) 0))) fun v30 =>
 ob (kgv false v24 (kload h19 v30)) fun v31 =>
 ob (kgv false v24 (kfa 3 (.ptr (Heap.next h) 0))) fun v32 =>
 ob (kgv false v24 (kload h19 v32)) fun v33 =>
 ob (kgc false v24 h19 (S 280 [v27, v29, v31, v33] h19)) fun r34 => kres r34 (fun v35 h36 =>
 ob (kgv false v24 (kbinI .geq v35 (.int .i64 (.ofNat 0)))) fun v39 =>
 ob (kpick v24 (.bool true) v39) fun v40 =>
 ob (kgv false v40 (some s_1)) fun v41 =>
 ob (kgv false v40 (knil v41)) fun v42 =>
 ob (kgv false v40 (kfa 1 v42)) fun v43 =>
 ob (kgv false v40 (kload h36 v43)) fun v44 =>
 ob (kgv false v40 (some (.func 278 [(.ptr (Heap.next h) 0)]))) fun v45 =>
 ob (kgc false v40 h36 (S 281 [v44, v45] h36)) fun r46 => kres r46 (fun v47 h48 =>
 ob (kpick v40 (.bool true) v47) fun v51 =>
 kif v51
  ((some (false, (.int .i64 (.ofNat 14)), h48)))
  (ob (knil s_1) fun v52 =>
  ob (kfa 1 v52) fun v53 =>
  ob (kload h48 v53) fun v54 =>
  ob (kfa 1 (.ptr (Heap.next h) 0)) fun v55 =>
  ob (kload h48 v55) fun v56 =>
  ob (kfa 2 (.ptr (Heap.next h) 0)) fun v57 =>
  ob (kload h48 v57) fun v58 =>
  ob (kfa 3 (.ptr (Heap.next h) 0)) fun v59 =>
  ob (kload h48 v59) fun v60 =>
  ob (kload h48 v3) fun v61 =>
  ob (kfa 5 (.ptr (Heap.next h) 0)) fun v62 =>
  ob (kload h48 v62) fun v63 =>
  ob (S 40 [v63] h48) fun r64 => kres r64 (fun v65 h66 =>
  kre (kload h66 v3) v61 (kre (kload h66 v59) v60 (kre (kload h66 v57) v58 (kre (kload h66 v55) v56 (kre (kload h66 v53) v54 (ob (abuild Tryz.prog 156 [(0, v56), (1, v58), (2, v60), (3, v61), (5, v65)]) fun v69 =>
  kfree h66 (ob (abuildSlice Tryz.prog 83 1 [(0, v69)]) fun r70 => Heap.pushK h66 (.cells r70.1 true r70.2.2) fun h71 =>
  ob (aappend Tryz.prog h71 83 83 v54 (.slice (Heap.next h66) 0 1 1 r70.2.1)) fun r72 =>
  ob (knil s_1) fun v73 =>
  ob (kfa 1 v73) fun v74 =>
  ob (kstore 1 v74 r72.1 r72.2) fun h75 =>
  (some (false, (.int .i64 (.ofNat 0)), h75))))))))) (fun p67 h68 => none))) (fun p49 h50 => (some (true, p49, h50)))) (fun p37 h38 => (some (true, p37, h38))))) (fun p15 h16 => none)))
theorem F276_ok {S : FS} {D : FD} (hS : SpecsOK Tryz.prog S) (hD : DynOK Tryz.prog D) : SpecOK Tryz.prog 276 (F276 S D) :=
  SpecOK.of (c := match Tryz.f276.body with | some c => c | none => .skip) (by kernel_rfl) hS hD ⟨Tryz.func276, rfl, by decide⟩
    (.seq .n (.seq .n (.seq .n (.seq (.seq .n (.dup (.seq .n .n) .n)) (.seq .n (.seq .n .n)))))) 3 (fun args h => by kernel_rfl)
/-- roundhouse/rec.Find -/
noncomputable def F277 (S : FS) (D : FD) (args : List AV) (h : Heap) : Option (Bool × AV × Heap) :=
 kv3 args fun s_1 job_2 epoch_3 =>
 knt s_1 (Heap.pushK h (.cells (AV.cells s_1) true 85) fun h4 =>
 Heap.pushK h4 (.cells [(.int .i64 (.ofNat 0)), (.int .i64 (.ofNat 0)), (.int .i64 (.ofNat 0))] true 153) fun h5 =>
 ob (kloadN 3 h5 (.ptr (Heap.next h) 0)) fun v6 =>
 ob (S 283 [v6, job_2, epoch_3] h5) fun r7 => kres r7 (fun v8 h9 =>
 ob (kbinI .geq v8 (.int .i64 (.ofNat 0))) fun v12 =>
 kif v12
  (ob (kfa 0 (.ptr (Heap.next h) 0)) fun v13 =>
  ob (kload h9 v13) fun v14 =>
  ob (kia 3 v14 v8) fun v15 =>
  ob (kloadN 3 h9 v15) fun v16 =>
  ob (kstore 3 (.ptr (Heap.next h4) 0) v16 h9) fun h17 =>
  ob (kloadN 3 h17 (.ptr (Heap.next h4) 0)) fun v18 => (some (false, (.tuple [v18, (.bool true)]), h17)))
  (ob (abuild Tryz.prog 153 []) fun v19 =>
  ob (kstore 3 (.ptr (Heap.next h4) 0) v19 h9) fun h20 =>
  ob (kloadN 3 h20 (.ptr (Heap.next h4) 0)) fun v21 => (some (false, (.tuple [v21, (.bool false)]), h20)))) (fun p10 h11 => (some (true, p10, h11))))
theorem F277_ok {S : FS} {D : FD} (hS : SpecsOK Tryz.prog S) (hD : DynOK Tryz.prog D) : SpecOK Tryz.prog 277 (F277 S D) :=
  SpecOK.of (c := match Tryz.f277.body with | some c => c | none => .skip) (by kernel_rfl) hS hD ⟨Tryz.func277, rfl, by decide⟩
    (.seq .n (.seq (.seq .n (.seq .n (.dup (.seq .n .n) .n))) (.seq .n .n))) 3 (fun args h => by kernel_rfl)
/-- roundhouse/rec.begins$1$1 -/
noncomputable def F278 (S : FS) (D : FD) (args : List AV) (h : Heap) : Option (Bool × AV × Heap) :=
 kv2 args fun x_1 v2 =>
 knt x_1 (Heap.pushK h (.cells (AV.cells x_1) true 156) fun h3 =>
 ob (kfa 5 (.ptr (Heap.next h) 0)) fun v4 =>
 ob (kload h3 v4) fun v5 =>
 ob (S 169 [v5, (.func 279 [v2])] h3) fun r6 => kres r6 (fun v7 h8 =>
 (some (false, v7, h8))) (fun p9 h10 => (some (true, p9, h10))))
theorem F278_ok {S : FS} {D : FD} (hS : SpecsOK Tryz.prog S) (hD : DynOK Tryz.prog D) : SpecOK Tryz.prog 278 (F278 S D) :=
  SpecOK.of (c := match Tryz.f278.body with | some c => c | none => .skip) (by kernel_rfl) hS hD ⟨Tryz.func278, rfl, by decide⟩
    (.seq .n (.seq .n .n)) 2 (fun args h => by kernel_rfl)
/-- roundhouse/rec.begins$1$1$1 -/
noncomputable def F279 (S : FS) (D : FD) (args : List AV) (h : Heap) : Option (Bool × AV × Heap) :=
 kv2 args fun pid_1 v2 =>
 ob (kfa 5 v2) fun v3 =>
 ob (kload h v3) fun v4 =>
 ob (S 114 [v4, pid_1] h) fun r5 => kres r5 (fun v6 h7 =>
 (some (false, v6, h7))) (fun p8 h9 => (some (true, p8, h9)))
theorem F279_ok {S : FS} {D : FD} (hS : SpecsOK Tryz.prog S) (hD : DynOK Tryz.prog D) : SpecOK Tryz.prog 279 (F279 S D) :=
  SpecOK.of (c := match Tryz.f279.body with | some c => c | none => .skip) (by kernel_rfl) hS hD ⟨Tryz.func279, rfl, by decide⟩
    (.seq .n (.seq .n .n)) 2 (fun args h => by kernel_rfl)
/-- (roundhouse/rec.State).step -/
noncomputable def F280 (S : FS) (D : FD) (args : List AV) (h : Heap) : Option (Bool × AV × Heap) :=
 kv4 args fun s_1 job_2 epoch_3 step_4 =>
 knt s_1 (Heap.pushK h (.cells (AV.cells s_1) true 85) fun h5 =>
 knt job_2 (Heap.pushK h5 (.cells (AV.cells job_2) true 3) fun h6 =>
 knt epoch_3 (Heap.pushK h6 (.cells (AV.cells epoch_3) true 3) fun h7 =>
 knt step_4 (Heap.pushK h7 (.cells (AV.cells step_4) true 3) fun h8 =>
 ob (kfa 1 (.ptr (Heap.next h) 0)) fun v9 =>
 ob (kload h8 v9) fun v10 =>
 ob (S 347 [v10, (.func 348 [(.ptr (Heap.next h5) 0), (.ptr (Heap.next h6) 0), (.ptr (Heap.next h7) 0)])] h8) fun r11 => kres r11 (fun v12 h13 =>
 (some (false, v12, h13))) (fun p14 h15 => (some (true, p14, h15)))))))
theorem F280_ok {S : FS} {D : FD} (hS : SpecsOK Tryz.prog S) (hD : DynOK Tryz.prog D) : SpecOK Tryz.prog 280 (F280 S D) :=
  SpecOK.of (c := match Tryz.f280.body with | some c => c | none => .skip) (by kernel_rfl) hS hD ⟨Tryz.func280, rfl, by decide⟩
    (.seq .n (.seq .n .n)) 4 (fun args h => by kernel_rfl)
/-- slices.ContainsFunc[[]roundhouse/rec.Step,roundhouse/rec.Step] -/
noncomputable def F281 (S : FS) (D : FD) (args : List AV) (h : Heap) : Option (Bool × AV × Heap) :=
 kv2 args fun s_1 f_2 =>
 ob (S 347 [s_1, f_2] h) fun r3 => kres r3 (fun v4 h5 =>
 ob (kbinI .geq v4 (.int .i64 (.ofNat 0))) fun v8 =>
 (some (false, v8, h5))) (fun p6 h7 => (some (true, p6, h7)))
theorem F281_ok {S : FS} {D : FD} (hS : SpecsOK Tryz.prog S) (hD : DynOK Tryz.prog D) : SpecOK Tryz.prog 281 (F281 S D) :=
  SpecOK.of (c := match Tryz.f281.body with | some c => c | none => .skip) (by kernel_rfl) hS hD ⟨Tryz.func281, rfl, by decide⟩
    (.seq .n (.seq .n .n)) 2 (fun args h => by kernel_rfl)
/-- roundhouse/rec.turns$1 -/
noncomputable def F282 (S : FS) (D : FD) (args : List AV) (h : Heap) : Option (Bool × AV × Heap) :=
 kv4 args fun s_1 r_2 v3 v4 =>
 knt r_2 (Heap.pushK h (.cells (AV.cells r_2) true 167) fun h5 =>
 ob (knil s_1) fun v6 =>
 ob (kloadN 3 h5 v6) fun v7 =>
 ob (kfa 1 (.ptr (Heap.next h) 0)) fun v8 =>
 ob (kload h5 v8) fun v9 =>
 ob (kfa 2 (.ptr (Heap.next h) 0)) fun v10 =>
 ob (kload h5 v10) fun v11 =>
 ob (kfa 3 (.ptr (Heap.next h) 0)) fun v12 =>
 ob (kload h5 v12) fun v13 =>
 ob (S 280 [v7, v9, v11, v13] h5) fun r14 => kres r14 (fun v15 h16 =>
 ob (kbinI .lss v15 (.int .i64 (.ofNat 0))) fun v19 =>
 ob (kgv false v19 (some s_1)) fun v20 =>
 ob (kgv false v19 (knil v20)) fun v21 =>
 ob (kgv false v19 (kfa 1 v21)) fun v22 =>
 ob (kgv false v19 (kload h16 v22)) fun v23 =>
 ob (kgv false v19 (some v15)) fun v24 =>
 ob (kgv false v19 (kia 6 v23 v24)) fun v25 =>
 ob (kgv false v19 (kfa 3 v25)) fun v26 =>
 ob (kgv false v19 (kload h16 v26)) fun v27 =>
 ob (kgv false v19 (kload h16 v3)) fun v28 =>
 ob (kgv false v19 (kbinI .neq v27 v28)) fun v29 =>
 ob (kpick v19 (.bool true) v29) fun v30 =>
 kif v30
  ((some (false, (.int .i64 (.ofNat 14)), h16)))
  (ob (knil s_1) fun v31 =>
  ob (kfa 1 v31) fun v32 =>
  ob (kload h16 v32) fun v33 =>
  ob (kload h16 v4) fun v34 =>
  ob (kia 6 v33 v15) fun v35 =>
  ob (kfa 3 v35) fun v36 =>
  ob (kstore 1 v36 v34 h16) fun h37 =>
  ob (kload h37 v4) fun v38 =>
  ob (kbinI .eql v38 (.int .i64 (.ofNat 3))) fun v39 =>
  ob (kif v39
   (ob (knil s_1) fun v41 =>
   ob (kfa 1 v41) fun v42 =>
   ob (kload h37 v42) fun v43 =>
   ob (kfa 4 (.ptr (Heap.next h) 0)) fun v44 =>
   ob (kload h37 v44) fun v45 =>
   ob (kia 6 v43 v15) fun v46 =>
   ob (kfa 4 v46) fun v47 =>
   ob (kstore 1 v47 v45 h37) fun h48 =>
   (some ⟨0, [], [], h48⟩))
   ((some ⟨0, [], [], h37⟩))) fun r40 => kcase (J.i r40) [kv0 (J.vs r40) ((dleave (fun h49 => (some (false, (.int .i64 (.ofNat 0)), h49))) (J.ds r40) (J.h r40)))])) (fun p17 h18 => (some (true, p17, h18))))
theorem F282_ok {S : FS} {D : FD} (hS : SpecsOK Tryz.prog S) (hD : DynOK Tryz.prog D) : SpecOK Tryz.prog 282 (F282 S D) :=
  SpecOK.of (c := match Tryz.f282.body with | some c => c | none => .skip) (by kernel_rfl) hS hD ⟨Tryz.func282, rfl, by decide⟩
    (.seq .n (.seq .n (.seq (.seq .n (.dup (.seq .n .n) .n)) (.seq .n (.seq (.seq .n (.join [(.norm, [])] (.dup .n .n))) (.seq .n .n)))))) 4 (fun args h => by kernel_rfl)
/-- (roundhouse/rec.State).job -/
noncomputable def F283 (S : FS) (D : FD) (args : List AV) (h : Heap) : Option (Bool × AV × Heap) :=
 kv3 args fun s_1 job_2 epoch_3 =>
 knt s_1 (Heap.pushK h (.cells (AV.cells s_1) true 85) fun h4 =>
 knt job_2 (Heap.pushK h4 (.cells (AV.cells job_2) true 3) fun h5 =>
 knt epoch_3 (Heap.pushK h5 (.cells (AV.cells epoch_3) true 3) fun h6 =>
 ob (kfa 0 (.ptr (Heap.next h) 0)) fun v7 =>
 ob (kload h6 v7) fun v8 =>
 ob (S 349 [v8, (.func 350 [(.ptr (Heap.next h4) 0), (.ptr (Heap.next h5) 0)])] h6) fun r9 => kres r9 (fun v10 h11 =>
 (some (false, v10, h11))) (fun p12 h13 => (some (true, p12, h13))))))
theorem F283_ok {S : FS} {D : FD} (hS : SpecsOK Tryz.prog S) (hD : DynOK Tryz.prog D) : SpecOK Tryz.prog 283 (F283 S D) :=
  SpecOK.of (c := match Tryz.f283.body with | some c => c | none => .skip) (by kernel_rfl) hS hD ⟨Tryz.func283, rfl, by decide⟩
    (.seq .n (.seq .n .n)) 3 (fun args h => by kernel_rfl)
/-- roundhouse/rec.Alive -/
noncomputable def F284 (S : FS) (D : FD) (args : List AV) (h : Heap) : Option (Bool × AV × Heap) :=
 kv3 args fun s_1 job_2 epoch_3 =>
 knt s_1 (Heap.pushK h (.cells (AV.cells s_1) true 85) fun h4 =>
 knt job_2 (Heap.pushK h4 (.cells (AV.cells job_2) true 3) fun h5 =>
 knt epoch_3 (Heap.pushK h5 (.cells (AV.cells epoch_3) true 3) fun h6 =>
 ob (kfa 1 (.ptr (Heap.next h) 0)) fun v7 =>
 ob (kload h6 v7) fun v8 =>
 ob (S 281 [v8, (.func 351 [(.ptr (Heap.next h4) 0), (.ptr (Heap.next h5) 0)])] h6) fun r9 => kres r9 (fun v10 h11 =>
 (some (false, v10, h11))) (fun p12 h13 => (some (true, p12, h13))))))
theorem F284_ok {S : FS} {D : FD} (hS : SpecsOK Tryz.prog S) (hD : DynOK Tryz.prog D) : SpecOK Tryz.prog 284 (F284 S D) :=
  SpecOK.of (c := match Tryz.f284.body with | some c => c | none => .skip) (by kernel_rfl) hS hD ⟨Tryz.func284, rfl, by decide⟩
    (.seq .n (.seq .n .n)) 3 (fun args h => by kernel_rfl)
/-- slices.order2Ordered[int] -/
noncomputable def F285 (S : FS) (D : FD) (args : List AV) (h : Heap) : Option (Bool × AV × Heap) :=
 kv4 args fun data_1 a_2 b_3 swaps_4 =>
 ob (kia 1 data_1 b_3) fun v5 =>
 ob (kload h v5) fun v6 =>
 ob (kia 1 data_1 a_2) fun v7 =>
 ob (kload h v7) fun v8 =>
 ob (S 165 [v6, v8] h) fun r9 => kres r9 (fun v10 h11 =>
 kif v10
  (ob (knil swaps_4) fun v14 =>
  ob (kload h11 v14) fun v15 =>
  ob (kbinI .add v15 (.int .i64 (.ofNat 1))) fun v16 =>
  ob (knil swaps_4) fun v17 =>
  ob (kstore 1 v17 v16 h11) fun h18 =>
  (some (false, (.tuple [b_3, a_2]), h18)))
  ((some (false, (.tuple [a_2, b_3]), h11)))) (fun p12 h13 => (some (true, p12, h13)))
theorem F285_ok {S : FS} {D : FD} (hS : SpecsOK Tryz.prog S) (hD : DynOK Tryz.prog D) : SpecOK Tryz.prog 285 (F285 S D) :=
  SpecOK.of (c := match Tryz.f285.body with | some c => c | none => .skip) (by kernel_rfl) hS hD ⟨Tryz.func285, rfl, by decide⟩
    (.seq .n (.seq (.seq .n (.dup (.seq .n (.seq .n .n)) .n)) (.seq .n .n))) 4 (fun args h => by kernel_rfl)
/-- (roundhouse/trace.past).of$1 -/
noncomputable def F286 (S : FS) (D : FD) (args : List AV) (h : Heap) : Option (Bool × AV × Heap) :=
 kv4 args fun yield_1 v2 v3 v4 =>
 ob (kload h v2) fun v5 =>
 ob (klenL v5) fun v6 =>
 ob (iterD (fun vs7 ds8 h9 => kv6 vs7 fun yield_10 v11 v12 v13 v14 v15 =>
  ob (kbinI .lss v15 v14) fun v16 =>
  kif v16
   (ob (ob (kia 6 v13 v15) fun v18 =>
    ob (kloadN 6 h9 v18) fun v19 =>
    Heap.pushK h9 (.cells [(.int .i64 (.ofNat 0)), (.int .i64 (.ofNat 0)), (.int .i64 (.ofNat 0)), (.int .i64 (.ofNat 0)), (.int .i64 (.ofNat 0)), (.int .i64 (.ofNat 0))] true 174) fun h20 =>
    ob (kstore 6 (.ptr (Heap.next h9) 0) v19 h20) fun h21 =>
    ob (kfa 0 (.ptr (Heap.next h9) 0)) fun v22 =>
    ob (kload h21 v22) fun v23 =>
    ob (kload h21 v11) fun v24 =>
    ob (kbinI .neq v23 v24) fun v25 =>
    ob (kgv false v25 (kfa 2 (.ptr (Heap.next h9) 0))) fun v26 =>
    ob (kgv false v25 (kload h21 v26)) fun v27 =>
    ob (kgv false v25 (kfa 2 v12)) fun v28 =>
    ob (kgv false v25 (kload h21 v28)) fun v29 =>
    ob (kgv false v25 (kbinI .neq v27 v29)) fun v30 =>
    ob (kpick v25 (.bool true) v30) fun v31 =>
    ob (kgv false v31 (kfa 3 (.ptr (Heap.next h9) 0))) fun v32 =>
    ob (kgv false v31 (kload h21 v32)) fun v33 =>
    ob (kgv false v31 (kfa 3 v12)) fun v34 =>
    ob (kgv false v31 (kload h21 v34)) fun v35 =>
    ob (kgv false v31 (kbinI .neq v33 v35)) fun v36 =>
    ob (kpick v31 (.bool true) v36) fun v37 =>
    ob (kgv false v37 (kfa 1 (.ptr (Heap.next h9) 0))) fun v38 =>
    ob (kgv false v37 (kload h21 v38)) fun v39 =>
    ob (kgv false v37 (kfa 1 v12)) fun v40 =>
    ob (kgv false v37 (kload h21 v40)) fun v41 =>
    ob (kgv false v37 (kbinI .neq v39 v41)) fun v42 =>
    ob (kpick v37 (.bool true) v42) fun v43 =>
    ob (kgv false v43 (kload h21 v11)) fun v44 =>
    ob (kgc false v43 h21 (S 113 [v44] h21)) fun r45 => kres r45 (fun v46 h47 =>
    ob (kgv false v43 (aun .not v46)) fun v50 =>
    ob (kgv false v43 (some v50)) fun v51 =>
    ob (kgv true v51 (kfa 4 (.ptr (Heap.next h9) 0))) fun v52 =>
    ob (kgv true v51 (kload h47 v52)) fun v53 =>
    ob (kgv true v51 (kfa 4 v12)) fun v54 =>
    ob (kgv true v51 (kload h47 v54)) fun v55 =>
    ob (kgv true v51 (kbinI .neq v53 v55)) fun v56 =>
    ob (kgv false v43 (kpick v51 v56 (.bool false))) fun v57 =>
    ob (kpick v43 (.bool true) v57) fun v58 =>
    kif v58
     ((some ⟨0, [yield_10, v11, v12, v13, v14, v15], ds8, h47⟩))
     (ob (kloadN 6 h47 (.ptr (Heap.next h9) 0)) fun v59 =>
     ob (D yield_10 [v15, v59] h47) fun r60 => kres r60 (fun v61 h62 =>
     ob (aun .not v61) fun v65 =>
     kif v65
      ((some ⟨1, [], ds8, h62⟩))
      ((some ⟨0, [yield_10, v11, v12, v13, v14, v15], ds8, h62⟩))) (fun p63 h64 => (some ⟨2, [p63], ds8, h64⟩)))) (fun p48 h49 => (some ⟨2, [p48], ds8, h49⟩))) fun r17 => kcase (J.i r17) [kv6 (J.vs r17) fun yield_66 v67 v68 v69 v70 v71 =>
    ob (kbinI .add v71 (.int .i64 (.ofNat 1))) fun v72 =>
    (some ⟨0, [yield_66, v67, v68, v69, v70, v72], (J.ds r17), (J.h r17)⟩),
   kv0 (J.vs r17) ((some ⟨1, [], (J.ds r17), (J.h r17)⟩)),
   kv1 (J.vs r17) fun p73 => (some ⟨2, [p73], (J.ds r17), (J.h r17)⟩)])
   ((some ⟨1, [], ds8, h9⟩))) rounds [yield_1, v3, v4, v5, v6, (.int .i64 (.ofNat 0))] [] h) fun r74 => kcase (J.i r74) [kv0 (J.vs r74) ((dleave (fun h75 => (some (false, (.tuple []), h75))) (J.ds r74) (J.h r74))),
 kv1 (J.vs r74) fun p76 => (kds (J.ds r74) (some (true, p76, (J.h r74))))]
theorem F286_ok {S : FS} {D : FD} (hS : SpecsOK Tryz.prog S) (hD : DynOK Tryz.prog D) : SpecOK Tryz.prog 286 (F286 S D) :=
  SpecOK.of (c := match Tryz.f286.body with | some c => c | none => .skip) (by kernel_rfl) hS hD ⟨Tryz.func286, rfl, by decide⟩
    (.one (.seq .n (.seq .n (.one (.loop [0, 2, 3, 7, 8, 9] [(.exit 0, []), (.pan, [])] (.seq .n (.seq (.dup .n .n) (.seq (.join [(.norm, [0, 2, 3, 7, 8, 9]), (.exit 0, []), (.pan, [])] (.one (.seq .n (.seq (.seq .n (.dup .n .n)) (.seq .n (.dup .n .n)))))) .n)))))))) 4 (fun args h => by kernel_rfl)
end Go.Rh.Tryz
