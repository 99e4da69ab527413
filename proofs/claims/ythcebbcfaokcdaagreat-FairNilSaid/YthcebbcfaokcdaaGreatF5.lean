/- Printed by wip/tools/gen.py: functions of the program as plain functions over abstract values, each with its proof. -/
import Derived.Test.YthcebbcfaokcdaaGreatProg
import Derived.Test.YthcebbcfaokcdaaGreatRh3
set_option maxRecDepth 1000000
set_option linter.unusedVariables false
namespace Go.Rh.Tryz
open Go.Proofs
/-- (*roundhouse/agent.Agent).tasks -/
noncomputable def F166 (S : FS) (D : FD) (args : List AV) (h : Heap) : Option (Bool × AV × Heap) :=
 kv2 args fun a_1 pids_2 =>
 knt pids_2 (Heap.pushK h (.cells (AV.cells pids_2) true 37) fun h3 =>
 ob (knil a_1) fun v4 =>
 ob (kfa 0 v4) fun v5 =>
 ob (kfa 1 v5) fun v6 =>
 ob (kload h3 v6) fun v7 =>
 ob (S 51 [v7] h3) fun r8 => kres r8 (fun v9 h10 =>
 ob (S 106 [v9, (.func 235 [(.ptr (Heap.next h) 0)])] h10) fun r13 => kres r13 (fun v14 h15 =>
 (some (false, v14, h15))) (fun p16 h17 => (some (true, p16, h17)))) (fun p11 h12 => (some (true, p11, h12))))
theorem F166_ok {S : FS} {D : FD} (hS : SpecsOK Tryz.prog S) (hD : DynOK Tryz.prog D) : SpecOK Tryz.prog 166 (F166 S D) :=
  SpecOK.of (c := match Tryz.f166.body with | some c => c | none => .skip) (by kernel_rfl) hS hD ⟨Tryz.func166, rfl, by decide⟩
    (.seq .n (.seq .n .n)) 2 (fun args h => by kernel_rfl)
/-- (*roundhouse/agent.Agent).use -/
noncomputable def F167 (S : FS) (D : FD) (args : List AV) (h : Heap) : Option (Bool × AV × Heap) :=
 kv2 args fun a_1 x_2 =>
 knt x_2 (Heap.pushK h (.cells (AV.cells x_2) true 92) fun h3 =>
 ob (knil a_1) fun v4 =>
 ob (kfa 0 v4) fun v5 =>
 ob (kfa 2 v5) fun v6 =>
 ob (kload h3 v6) fun v7 =>
 ob (kfa 1 (.ptr (Heap.next h) 0)) fun v8 =>
 ob (kload h3 v8) fun v9 =>
 ob (kfa 5 (.ptr (Heap.next h) 0)) fun v10 =>
 ob (kload h3 v10) fun v11 =>
 ob (klenL v11) fun v12 =>
 ob (knil a_1) fun v13 =>
 ob (kfa 0 v13) fun v14 =>
 ob (kfa 3 v14) fun v15 =>
 ob (kload h3 v15) fun v16 =>
 ob (kfa 0 (.ptr (Heap.next h) 0)) fun v17 =>
 ob (kload h3 v17) fun v18 =>
 ob (alookup Tryz.prog h3 68 v16 v18 false) fun v19 =>
 ob (kfield false 0 1 v19) fun v20 =>
 ob (knil a_1) fun v21 =>
 ob (kfa 0 v21) fun v22 =>
 ob (kfa 4 v22) fun v23 =>
 ob (kload h3 v23) fun v24 =>
 ob (abuild Tryz.prog 359 [(0, v9), (1, v12), (2, v20), (3, v24)]) fun v25 =>
 ob (S 236 [v7, v25] h3) fun r26 => kres r26 (fun v27 h28 =>
 (some (false, (.tuple []), h28))) (fun p29 h30 => (some (true, p29, h30))))
theorem F167_ok {S : FS} {D : FD} (hS : SpecsOK Tryz.prog S) (hD : DynOK Tryz.prog D) : SpecOK Tryz.prog 167 (F167 S D) :=
  SpecOK.of (c := match Tryz.f167.body with | some c => c | none => .skip) (by kernel_rfl) hS hD ⟨Tryz.func167, rfl, by decide⟩
    (.seq .n .n) 2 (fun args h => by kernel_rfl)
/-- roundhouse/rec.StepOf -/
noncomputable def F168 (S : FS) (D : FD) (args : List AV) (h : Heap) : Option (Bool × AV × Heap) :=
 kv4 args fun s_1 job_2 epoch_3 step_4 =>
 knt s_1 (Heap.pushK h (.cells (AV.cells s_1) true 76) fun h5 =>
 Heap.pushK h5 (.cells [(.int .i64 (.ofNat 0)), (.int .i64 (.ofNat 0)), (.int .i64 (.ofNat 0)), (.int .i64 (.ofNat 0)), (.int .i64 (.ofNat 0)), AV.nilslice] true 192) fun h6 =>
 ob (kloadN 3 h6 (.ptr (Heap.next h) 0)) fun v7 =>
 ob (S 237 [v7, job_2, epoch_3, step_4] h6) fun r8 => kres r8 (fun v9 h10 =>
 ob (kbinI .geq v9 (.int .i64 (.ofNat 0))) fun v13 =>
 kif v13
  (ob (kfa 1 (.ptr (Heap.next h) 0)) fun v14 =>
  ob (kload h10 v14) fun v15 =>
  ob (kia 6 v15 v9) fun v16 =>
  ob (kloadN 6 h10 v16) fun v17 =>
  ob (kstore 6 (.ptr (Heap.next h5) 0) v17 h10) fun h18 =>
  ob (kloadN 6 h18 (.ptr (Heap.next h5) 0)) fun v19 => (some (false, (.tuple [v19, (.bool true)]), h18)))
  (ob (abuild Tryz.prog 192 []) fun v20 =>
  ob (kstore 6 (.ptr (Heap.next h5) 0) v20 h10) fun h21 =>
  ob (kloadN 6 h21 (.ptr (Heap.next h5) 0)) fun v22 => (some (false, (.tuple [v22, (.bool false)]), h21)))) (fun p11 h12 => (some (true, p11, h12))))
theorem F168_ok {S : FS} {D : FD} (hS : SpecsOK Tryz.prog S) (hD : DynOK Tryz.prog D) : SpecOK Tryz.prog 168 (F168 S D) :=
  SpecOK.of (c := match Tryz.f168.body with | some c => c | none => .skip) (by kernel_rfl) hS hD ⟨Tryz.func168, rfl, by decide⟩
    (.seq .n (.seq (.seq .n (.seq .n (.dup (.seq .n .n) .n))) (.seq .n .n))) 4 (fun args h => by kernel_rfl)
/-- roundhouse/rec.Apply -/
noncomputable def F169 (S : FS) (D : FD) (args : List AV) (h : Heap) : Option (Bool × AV × Heap) :=
 kv2 args fun s_1 r_2 =>
 knt s_1 (Heap.pushK h (.cells (AV.cells s_1) true 76) fun h3 =>
 knt r_2 (Heap.pushK h3 (.cells (AV.cells r_2) true 120) fun h4 =>
 Heap.pushK h4 (.cells [AV.nilslice, AV.nilslice, (.bool false)] true 76) fun h5 =>
 ob (kloadN 6 h5 (.ptr (Heap.next h3) 0)) fun v6 =>
 ob (S 81 [v6] h5) fun r7 => kres r7 (fun v8 h9 =>
 ob (aun .not v8) fun v12 =>
 kif v12
  (ob (kloadN 3 h9 (.ptr (Heap.next h) 0)) fun v13 =>
  ob (kstore 3 (.ptr (Heap.next h4) 0) v13 h9) fun h14 =>
  ob (kloadN 3 h14 (.ptr (Heap.next h4) 0)) fun v15 => (some (false, (.tuple [v15, (.int .i64 (.ofNat 1))]), h14)))
  (ob (kloadN 3 h9 (.ptr (Heap.next h) 0)) fun v16 =>
  ob (S 238 [v16] h9) fun r17 => kres r17 (fun v18 h19 =>
  Heap.pushK h19 (.cells [AV.nilslice, AV.nilslice, (.bool false)] true 76) fun h22 =>
  ob (kstore 3 (.ptr (Heap.next h19) 0) v18 h22) fun h23 =>
  ob (kfa 0 (.ptr (Heap.next h3) 0)) fun v24 =>
  ob (kload h23 v24) fun v25 =>
  ob (kloadN 6 h23 (.ptr (Heap.next h3) 0)) fun v26 =>
  ob (S 239 [] h23) fun r27 => kres r27 (fun v28 h29 =>
  kre (kloadN 6 h29 (.ptr (Heap.next h3) 0)) v26 (kre (kload h29 v24) v25 (ob (alookup Tryz.prog h29 364 v28 v25 false) fun v32 =>
  ob (kfield false 0 1 v32) fun v33 =>
  ob (D v33 [(.ptr (Heap.next h19) 0), v26] h29) fun r34 => kres r34 (fun v35 h36 =>
  ob (kbinI .neq v35 (.int .i64 (.ofNat 0))) fun v39 =>
  kif v39
   (ob (kloadN 3 h36 (.ptr (Heap.next h) 0)) fun v40 =>
   ob (kstore 3 (.ptr (Heap.next h4) 0) v40 h36) fun h41 =>
   ob (kloadN 3 h41 (.ptr (Heap.next h4) 0)) fun v42 => (some (false, (.tuple [v42, v35]), h41)))
   (ob (kloadN 3 h36 (.ptr (Heap.next h19) 0)) fun v43 =>
   ob (kstore 3 (.ptr (Heap.next h4) 0) v43 h36) fun h44 =>
   ob (kloadN 3 h44 (.ptr (Heap.next h4) 0)) fun v45 => (some (false, (.tuple [v45, (.int .i64 (.ofNat 0))]), h44)))) (fun p37 h38 => (some (true, p37, h38)))))) (fun p30 h31 => none)) (fun p20 h21 => (some (true, p20, h21))))) (fun p10 h11 => (some (true, p10, h11)))))
theorem F169_ok {S : FS} {D : FD} (hS : SpecsOK Tryz.prog S) (hD : DynOK Tryz.prog D) : SpecOK Tryz.prog 169 (F169 S D) :=
  SpecOK.of (c := match Tryz.f169.body with | some c => c | none => .skip) (by kernel_rfl) hS hD ⟨Tryz.func169, rfl, by decide⟩
    (.seq .n (.seq (.seq .n (.dup (.seq .n .n) .n)) (.seq .n (.seq (.seq .n (.seq .n (.dup (.seq .n .n) .n))) (.seq .n .n))))) 2 (fun args h => by kernel_rfl)
/-- (*roundhouse/agent.Agent).reap -/
noncomputable def F170 (S : FS) (D : FD) (args : List AV) (h : Heap) : Option (Bool × AV × Heap) :=
 kv2 args fun a_1 pids_2 =>
 ob (klenL pids_2) fun v3 =>
 ob (iterD (fun vs4 ds5 h6 => kv4 vs4 fun a_7 v8 v9 v10 =>
  ob (kbinI .lss v10 v9) fun v11 =>
  kif v11
   (ob (kia 1 v8 v10) fun v12 =>
   ob (kload h6 v12) fun v13 =>
   ob (knil a_7) fun v14 =>
   ob (kfa 0 v14) fun v15 =>
   ob (kfa 1 v15) fun v16 =>
   ob (kload h6 v16) fun v17 =>
   ob (S 240 [v17, v13] h6) fun r18 => kres r18 (fun v19 h20 =>
   ob (aextract v19 0) fun v23 =>
   ob (aextract v19 1) fun v24 =>
   Heap.pushK h20 (.cells [(.int .i64 (.ofNat 0)), (.int .i64 (.ofNat 0)), (.int .i64 (.ofNat 0)), (.int .i64 (.ofNat 0)), (.int .i64 (.ofNat 0)), AV.nilslice, (.int .i64 (.ofNat 0)), (.int .i64 (.ofNat 0))] true 92) fun h25 =>
   ob (kstore 8 (.ptr (Heap.next h20) 0) v23 h25) fun h26 =>
   ob (kbinI .eql v24 (.int .i64 (.ofNat 0))) fun v27 =>
   ob (kif v27
    (ob (knil a_7) fun v29 =>
    ob (kfa 0 v29) fun v30 =>
    ob (kfa 3 v30) fun v31 =>
    ob (kload h26 v31) fun v32 =>
    ob (amapDel Tryz.prog h26 68 v32 v13) fun h33 =>
    (some ⟨0, [a_7, v8, v9, v10], ds5, h33⟩))
    ((some ⟨0, [a_7, v8, v9, v10], ds5, h26⟩))) fun r28 => kcase (J.i r28) [kv4 (J.vs r28) fun a_34 v35 v36 v37 =>
    ob (kbinI .add v37 (.int .i64 (.ofNat 1))) fun v38 =>
    (some ⟨0, [a_34, v35, v36, v38], (J.ds r28), (J.h r28)⟩)]) (fun p21 h22 => (some ⟨2, [p21], ds5, h22⟩)))
   ((some ⟨1, [], ds5, h6⟩))) rounds [a_1, pids_2, v3, (.int .i64 (.ofNat 0))] [] h) fun r39 => kcase (J.i r39) [kv0 (J.vs r39) ((dleave (fun h40 => (some (false, (.tuple []), h40))) (J.ds r39) (J.h r39))),
 kv1 (J.vs r39) fun p41 => (kds (J.ds r39) (some (true, p41, (J.h r39))))]
theorem F170_ok {S : FS} {D : FD} (hS : SpecsOK Tryz.prog S) (hD : DynOK Tryz.prog D) : SpecOK Tryz.prog 170 (F170 S D) :=
  SpecOK.of (c := match Tryz.f170.body with | some c => c | none => .skip) (by kernel_rfl) hS hD ⟨Tryz.func170, rfl, by decide⟩
    (.seq .n (.one (.loop [0, 8, 9, 10] [(.exit 0, []), (.pan, [])] (.seq .n (.seq (.dup .n .n) (.seq (.one (.seq .n (.seq .n (.seq .n (.join [(.norm, [0, 8, 9, 10])] (.dup .n .n)))))) .n)))))) 2 (fun args h => by kernel_rfl)
/-- roundhouse/mask.Of -/
noncomputable def F171 (S : FS) (D : FD) (args : List AV) (h : Heap) : Option (Bool × AV × Heap) :=
 kv1 args fun l_1 =>
 Heap.pushK h (.cells [(.int .u64 (.ofNat 0)), (.int .u64 (.ofNat 0)), (.int .u64 (.ofNat 0)), (.int .u64 (.ofNat 0))] true 287) fun h2 =>
 Heap.pushK h2 (.cells [(.int .u64 (.ofNat 0)), (.int .u64 (.ofNat 0)), (.int .u64 (.ofNat 0)), (.int .u64 (.ofNat 0))] true 287) fun h3 =>
 ob (klenL l_1) fun v4 =>
 ob (iterD (fun vs5 ds6 h7 => kv5 vs5 fun v8 m_9 v10 v11 v12 =>
  ob (kbinI .lss v12 v11) fun v13 =>
  kif v13
   (ob (kia 1 v10 v12) fun v14 =>
   ob (kload h7 v14) fun v15 =>
   ob (S 241 [v15] h7) fun r16 => kres r16 (fun v17 h18 =>
   ob (aun .not v17) fun v21 =>
   ob (kgv false v21 (kloadN 4 h18 m_9)) fun v22 =>
   ob (kgv false v21 (some v15)) fun v23 =>
   ob (kgc false v21 h18 (S 242 [v22, v23] h18)) fun r24 => kres r24 (fun v25 h26 =>
   ob (kpick v21 (.bool true) v25) fun v29 =>
   kif v29
    (ob (abuild Tryz.prog 287 []) fun v30 =>
    ob (kstore 4 v8 v30 h26) fun h31 =>
    (some ⟨2, [v8, (.int .i64 (.ofNat 1))], ds6, h31⟩))
    (ob (kloadN 4 h26 m_9) fun v32 =>
    ob (S 243 [v32, v15] h26) fun r33 => kres r33 (fun v34 h35 =>
    ob (kstore 4 m_9 v34 h35) fun h38 =>
    ob (kbinI .add v12 (.int .i64 (.ofNat 1))) fun v39 =>
    (some ⟨0, [v8, m_9, v10, v11, v39], ds6, h38⟩)) (fun p36 h37 => (some ⟨3, [p36], ds6, h37⟩)))) (fun p27 h28 => (some ⟨3, [p27], ds6, h28⟩))) (fun p19 h20 => (some ⟨3, [p19], ds6, h20⟩)))
   ((some ⟨1, [v8, m_9], ds6, h7⟩))) rounds [(.ptr (Heap.next h) 0), (.ptr (Heap.next h2) 0), l_1, v4, (.int .i64 (.ofNat 0))] [] h3) fun r40 => kcase (J.i r40) [kv2 (J.vs r40) fun v41 m_42 =>
  ob (kloadN 4 (J.h r40) m_42) fun v43 =>
  ob (kstore 4 v41 v43 (J.h r40)) fun h44 =>
  (dleave (fun h45 => ob (kloadN 4 h45 v41) fun v46 => (some (false, (.tuple [v46, (.int .i64 (.ofNat 0))]), h45))) (J.ds r40) h44),
 kv2 (J.vs r40) fun v47 v48 =>
  (dleave (fun h49 => ob (kloadN 4 h49 v47) fun v50 => (some (false, (.tuple [v50, v48]), h49))) (J.ds r40) (J.h r40)),
 kv1 (J.vs r40) fun p51 => (kds (J.ds r40) (some (true, p51, (J.h r40))))]
theorem F171_ok {S : FS} {D : FD} (hS : SpecsOK Tryz.prog S) (hD : DynOK Tryz.prog D) : SpecOK Tryz.prog 171 (F171 S D) :=
  SpecOK.of (c := match Tryz.f171.body with | some c => c | none => .skip) (by kernel_rfl) hS hD ⟨Tryz.func171, rfl, by decide⟩
    (.seq .n (.seq .n (.seq (.seq .n (.one (.loop [2, 4, 7, 8, 9] [(.exit 0, [2, 4]), (.ret, [2, 3]), (.pan, [])] (.seq .n (.seq (.dup .n .n) (.seq (.one (.seq .n (.seq (.seq .n (.dup (.seq .n .n) .n)) .n))) .n)))))) (.seq .n .n)))) 1 (fun args h => by kernel_rfl)
/-- (roundhouse/mask.Mask).Or -/
noncomputable def F172 (S : FS) (D : FD) (args : List AV) (h : Heap) : Option (Bool × AV × Heap) :=
 kv2 args fun m_1 o_2 =>
 knt m_1 (Heap.pushK h (.cells (AV.cells m_1) true 287) fun h3 =>
 knt o_2 (Heap.pushK h3 (.cells (AV.cells o_2) true 287) fun h4 =>
 Heap.pushK h4 (.cells [(.int .u64 (.ofNat 0)), (.int .u64 (.ofNat 0)), (.int .u64 (.ofNat 0)), (.int .u64 (.ofNat 0))] true 287) fun h5 =>
 ob (kloadN 4 h5 (.ptr (Heap.next h) 0)) fun v6 =>
 ob (kloadN 4 h5 (.ptr (Heap.next h3) 0)) fun v7 =>
 ob (S 244 [v6, v7, (.func 245 [])] h5) fun r8 => kres r8 (fun v9 h10 =>
 ob (kstore 4 (.ptr (Heap.next h4) 0) v9 h10) fun h13 =>
 ob (kloadN 4 h13 (.ptr (Heap.next h4) 0)) fun v14 => (some (false, v14, h13))) (fun p11 h12 => (some (true, p11, h12)))))
theorem F172_ok {S : FS} {D : FD} (hS : SpecsOK Tryz.prog S) (hD : DynOK Tryz.prog D) : SpecOK Tryz.prog 172 (F172 S D) :=
  SpecOK.of (c := match Tryz.f172.body with | some c => c | none => .skip) (by kernel_rfl) hS hD ⟨Tryz.func172, rfl, by decide⟩
    (.seq .n (.seq .n .n)) 2 (fun args h => by kernel_rfl)
/-- (*roundhouse/pool.Pool).Take -/
noncomputable def F173 (S : FS) (D : FD) (args : List AV) (h : Heap) : Option (Bool × AV × Heap) :=
 kv3 args fun p_1 owner_2 m_3 =>
 knt m_3 (Heap.pushK h (.cells (AV.cells m_3) true 287) fun h4 =>
 ob (S 246 [p_1, owner_2] h4) fun r5 => kres r5 (fun v6 h7 =>
 ob (kbinI .eql v6 (.int .i64 (.ofNat 1))) fun v10 =>
 ob (kgv false v10 (kloadN 4 h7 (.ptr (Heap.next h) 0))) fun v11 =>
 ob (kgv false v10 (abuild Tryz.prog 287 [])) fun v12 =>
 ob (kgv false v10 (kbinO Tryz.prog .eql 287 false v11 v12)) fun v13 =>
 ob (kpick v10 (.bool true) v13) fun v14 =>
 kif v14
  ((some (false, (.int .i64 (.ofNat 1)), h7)))
  (ob (kbinI .neq v6 (.int .i64 (.ofNat 0))) fun v15 =>
  kif v15
   ((some (false, v6, h7)))
   (ob (kloadN 4 h7 (.ptr (Heap.next h) 0)) fun v16 =>
   ob (abuild Tryz.prog 287 []) fun v17 =>
   ob (S 248 [p_1] h7) fun r18 => kres r18 (fun v19 h20 =>
   kre (kloadN 4 h20 (.ptr (Heap.next h) 0)) v16 (ob (S 247 [v16, v19] h20) fun r23 => kres r23 (fun v24 h25 =>
   ob (kbinO Tryz.prog .neq 287 false v24 v17) fun v28 =>
   kif v28
    ((some (false, (.int .i64 (.ofNat 12)), h25)))
    (ob (knil p_1) fun v29 =>
    ob (kfa 2 v29) fun v30 =>
    ob (kload h25 v30) fun v31 =>
    ob (kloadN 4 h25 (.ptr (Heap.next h) 0)) fun v32 =>
    ob (abuild Tryz.prog 374 [(0, v32), (1, (.bool true))]) fun v33 =>
    ob (amapSet Tryz.prog h25 231 v31 owner_2 v33) fun h34 =>
    (some (false, (.int .i64 (.ofNat 0)), h34)))) (fun p26 h27 => none))) (fun p21 h22 => none)))) (fun p8 h9 => (some (true, p8, h9))))
theorem F173_ok {S : FS} {D : FD} (hS : SpecsOK Tryz.prog S) (hD : DynOK Tryz.prog D) : SpecOK Tryz.prog 173 (F173 S D) :=
  SpecOK.of (c := match Tryz.f173.body with | some c => c | none => .skip) (by kernel_rfl) hS hD ⟨Tryz.func173, rfl, by decide⟩
    (.seq .n (.seq .n (.seq (.one (.seq .n (.dup (.seq .n .n) (.seq .n (.dup (.seq .n .n) (.seq .n (.dup (.seq .n .n) .n))))))) (.seq .n (.seq .n .n))))) 3 (fun args h => by kernel_rfl)
/-- (*roundhouse/agent.Agent).start -/
noncomputable def F174 (S : FS) (D : FD) (args : List AV) (h : Heap) : Option (Bool × AV × Heap) :=
 kv2 args fun a_1 pids_2 =>
 ob (klenL pids_2) fun v3 =>
 ob (iterD (fun vs4 ds5 h6 => kv4 vs4 fun a_7 v8 v9 v10 =>
  ob (kbinI .lss v10 v9) fun v11 =>
  kif v11
   (ob (kia 1 v8 v10) fun v12 =>
   ob (kload h6 v12) fun v13 =>
   ob (knil a_7) fun v14 =>
   ob (kfa 0 v14) fun v15 =>
   ob (kfa 1 v15) fun v16 =>
   ob (kload h6 v16) fun v17 =>
   ob (S 249 [v17, v13] h6) fun r18 => kres r18 (fun v19 h20 =>
   ob (kbinI .eql v19 (.int .i64 (.ofNat 0))) fun v23 =>
   ob (kif v23
    (ob (knil a_7) fun v25 =>
    ob (kfa 0 v25) fun v26 =>
    ob (kfa 3 v26) fun v27 =>
    ob (kload h20 v27) fun v28 =>
    ob (knil a_7) fun v29 =>
    ob (kfa 0 v29) fun v30 =>
    ob (kfa 4 v30) fun v31 =>
    ob (kload h20 v31) fun v32 =>
    ob (knil a_7) fun v33 =>
    ob (kfa 0 v33) fun v34 =>
    ob (kfa 3 v34) fun v35 =>
    ob (kload h20 v35) fun v36 =>
    ob (alookup Tryz.prog h20 68 v36 v13 false) fun v37 =>
    ob (kfield false 1 1 v37) fun v38 =>
    ob (abuild Tryz.prog 246 [(0, v32), (1, v38)]) fun v39 =>
    ob (amapSet Tryz.prog h20 68 v28 v13 v39) fun h40 =>
    (some ⟨0, [a_7, v8, v9, v10], ds5, h40⟩))
    ((some ⟨0, [a_7, v8, v9, v10], ds5, h20⟩))) fun r24 => kcase (J.i r24) [kv4 (J.vs r24) fun a_41 v42 v43 v44 =>
    ob (kbinI .add v44 (.int .i64 (.ofNat 1))) fun v45 =>
    (some ⟨0, [a_41, v42, v43, v45], (J.ds r24), (J.h r24)⟩)]) (fun p21 h22 => (some ⟨2, [p21], ds5, h22⟩)))
   ((some ⟨1, [], ds5, h6⟩))) rounds [a_1, pids_2, v3, (.int .i64 (.ofNat 0))] [] h) fun r46 => kcase (J.i r46) [kv0 (J.vs r46) ((dleave (fun h47 => (some (false, (.tuple []), h47))) (J.ds r46) (J.h r46))),
 kv1 (J.vs r46) fun p48 => (kds (J.ds r46) (some (true, p48, (J.h r46))))]
theorem F174_ok {S : FS} {D : FD} (hS : SpecsOK Tryz.prog S) (hD : DynOK Tryz.prog D) : SpecOK Tryz.prog 174 (F174 S D) :=
  SpecOK.of (c := match Tryz.f174.body with | some c => c | none => .skip) (by kernel_rfl) hS hD ⟨Tryz.func174, rfl, by decide⟩
    (.seq .n (.one (.loop [0, 6, 7, 8] [(.exit 0, []), (.pan, [])] (.seq .n (.seq (.dup .n .n) (.seq (.one (.seq .n (.seq .n (.join [(.norm, [0, 6, 7, 8])] (.dup .n .n))))) .n)))))) 2 (fun args h => by kernel_rfl)
/-- roundhouse/node.Exit -/
noncomputable def F175 (S : FS) (D : FD) (args : List AV) (h : Heap) : Option (Bool × AV × Heap) :=
 kv4 args fun id_1 s_2 at_3 codes_4 =>
 knt s_2 (Heap.pushK h (.cells (AV.cells s_2) true 76) fun h5 =>
 knt at_3 (Heap.pushK h5 (.cells (AV.cells at_3) true 120) fun h6 =>
 Heap.pushK h6 (.cells [(.bool false), (.int .i64 (.ofNat 0)), (.int .i64 (.ofNat 0)), (.int .i64 (.ofNat 0)), (.int .i64 (.ofNat 0)), (.int .i64 (.ofNat 0)), AV.nilslice, (.bool false), (.int .i64 (.ofNat 0)), (.int .i64 (.ofNat 0)), (.int .i64 (.ofNat 0)), (.int .i64 (.ofNat 0)), (.int .i64 (.ofNat 0)), (.int .i64 (.ofNat 0)), (.int .i64 (.ofNat 0)), (.str 0 0), (.bool false), (.bool false), (.bool false)] true 272) fun h7 =>
 ob (S 214 [id_1, (.int .i64 (.ofNat 0)), (.int .i64 (.ofNat 15))] h7) fun r8 => kres r8 (fun v9 h10 =>
 ob (aun .not v9) fun v13 =>
 ob (kgv false v13 (some codes_4)) fun v14 =>
 ob (kgv false v13 (klenL v14)) fun v15 =>
 ob (kgv false v13 (kbinI .eql v15 (.int .i64 (.ofNat 0)))) fun v16 =>
 ob (kpick v13 (.bool true) v16) fun v17 =>
 ob (kgv false v17 (some codes_4)) fun v18 =>
 ob (kgv false v17 (some (.func 250 []))) fun v19 =>
 ob (kgc false v17 h10 (S 251 [v18, v19] h10)) fun r20 => kres r20 (fun v21 h22 =>
 ob (kpick v17 (.bool true) v21) fun v25 =>
 kif v25
  (ob (abuild Tryz.prog 272 []) fun v26 =>
  ob (kstore 19 (.ptr (Heap.next h6) 0) v26 h22) fun h27 =>
  ob (kloadN 19 h27 (.ptr (Heap.next h6) 0)) fun v28 => (some (false, (.tuple [v28, (.int .i64 (.ofNat 1))]), h27)))
  (ob (kloadN 3 h22 (.ptr (Heap.next h) 0)) fun v29 =>
  ob (kfa 1 (.ptr (Heap.next h5) 0)) fun v30 =>
  ob (kload h22 v30) fun v31 =>
  ob (kfa 2 (.ptr (Heap.next h5) 0)) fun v32 =>
  ob (kload h22 v32) fun v33 =>
  ob (kfa 3 (.ptr (Heap.next h5) 0)) fun v34 =>
  ob (kload h22 v34) fun v35 =>
  ob (abuild Tryz.prog 205 [(3, v31), (4, v33), (5, v35)]) fun v36 =>
  ob (S 213 [id_1, v29, v36] h22) fun r37 => kres r37 (fun v38 h39 =>
  ob (S 228 [v38, (.int .i64 (.ofNat 1))] h39) fun r42 => kres r42 (fun v43 h44 =>
  ob (aun .not v43) fun v47 =>
  kif v47
   (ob (abuild Tryz.prog 272 []) fun v48 =>
   ob (kstore 19 (.ptr (Heap.next h6) 0) v48 h44) fun h49 =>
   ob (kloadN 19 h49 (.ptr (Heap.next h6) 0)) fun v50 => (some (false, (.tuple [v50, (.int .i64 (.ofNat 14))]), h49)))
   (ob (S 252 [codes_4] h44) fun r51 => kres r51 (fun v52 h53 =>
   ob (S 254 [v38, (.int .i64 (.ofNat 5)), v52] h53) fun r56 => kres r56 (fun v57 h58 =>
   ob (S 253 [v38, v57, (.int .i64 (.ofNat 6)), v52] h58) fun r61 => kres r61 (fun v62 h63 =>
   ob (kstore 19 (.ptr (Heap.next h6) 0) v62 h63) fun h66 =>
   ob (kloadN 19 h66 (.ptr (Heap.next h6) 0)) fun v67 => (some (false, (.tuple [v67, (.int .i64 (.ofNat 0))]), h66))) (fun p64 h65 => (some (true, p64, h65)))) (fun p59 h60 => (some (true, p59, h60)))) (fun p54 h55 => (some (true, p54, h55))))) (fun p45 h46 => (some (true, p45, h46)))) (fun p40 h41 => (some (true, p40, h41))))) (fun p23 h24 => (some (true, p23, h24)))) (fun p11 h12 => (some (true, p11, h12)))))
theorem F175_ok {S : FS} {D : FD} (hS : SpecsOK Tryz.prog S) (hD : DynOK Tryz.prog D) : SpecOK Tryz.prog 175 (F175 S D) :=
  SpecOK.of (c := match Tryz.f175.body with | some c => c | none => .skip) (by kernel_rfl) hS hD ⟨Tryz.func175, rfl, by decide⟩
    (.seq .n (.seq .n (.seq (.seq .n (.dup (.seq .n .n) .n)) (.seq .n (.seq (.seq .n (.dup (.seq .n .n) .n)) (.seq .n (.seq .n .n))))))) 4 (fun args h => by kernel_rfl)
/-- (*roundhouse/pool.Pool).Release -/
noncomputable def F176 (S : FS) (D : FD) (args : List AV) (h : Heap) : Option (Bool × AV × Heap) :=
 kv2 args fun p_1 owner_2 =>
 ob (kbinO Tryz.prog .eql 77 true p_1 AV.nilptr) fun v3 =>
 kif v3
  ((some (false, (.int .i64 (.ofNat 1)), h)))
  (ob (knil p_1) fun v4 =>
  ob (kfa 2 v4) fun v5 =>
  ob (kload h v5) fun v6 =>
  ob (alookup Tryz.prog h 231 v6 owner_2 true) fun v7 =>
  ob (aextract v7 0) fun v8 =>
  ob (aextract v7 1) fun v9 =>
  Heap.pushK h (.cells [(.int .u64 (.ofNat 0)), (.int .u64 (.ofNat 0)), (.int .u64 (.ofNat 0)), (.int .u64 (.ofNat 0)), (.bool false)] true 374) fun h10 =>
  ob (kstore 5 (.ptr (Heap.next h) 0) v8 h10) fun h11 =>
  ob (aun .not v9) fun v12 =>
  kif v12
   ((some (false, (.int .i64 (.ofNat 14)), h11)))
   (ob (knil p_1) fun v13 =>
   ob (kfa 2 v13) fun v14 =>
   ob (kload h11 v14) fun v15 =>
   ob (amapDel Tryz.prog h11 231 v15 owner_2) fun h16 =>
   (some (false, (.int .i64 (.ofNat 0)), h16))))
theorem F176_ok {S : FS} {D : FD} (hS : SpecsOK Tryz.prog S) (hD : DynOK Tryz.prog D) : SpecOK Tryz.prog 176 (F176 S D) :=
  SpecOK.of (c := match Tryz.f176.body with | some c => c | none => .skip) (by kernel_rfl) hS hD ⟨Tryz.func176, rfl, by decide⟩
    (.seq .n (.seq (.seq .n (.dup (.seq .n .n) .n)) (.seq (.seq .n (.seq .n (.dup (.seq .n .n) .n))) (.seq .n (.seq .n .n))))) 2 (fun args h => by kernel_rfl)
/-- slices.Backward[[]int,int] -/
noncomputable def F177 (S : FS) (D : FD) (args : List AV) (h : Heap) : Option (Bool × AV × Heap) :=
 kv1 args fun s_1 =>
 knt s_1 (Heap.pushK h (.cells (AV.cells s_1) true 37) fun h2 =>
 (some (false, (.func 255 [(.ptr (Heap.next h) 0)]), h2)))
theorem F177_ok {S : FS} {D : FD} (hS : SpecsOK Tryz.prog S) (hD : DynOK Tryz.prog D) : SpecOK Tryz.prog 177 (F177 S D) :=
  SpecOK.of (c := match Tryz.f177.body with | some c => c | none => .skip) (by kernel_rfl) hS hD ⟨Tryz.func177, rfl, by decide⟩
    (.seq .n (.seq .n .n)) 1 (fun args h => by kernel_rfl)
/-- (*roundhouse/tally.Tally).Code -/
noncomputable def F178 (S : FS) (D : FD) (args : List AV) (h : Heap) : Option (Bool × AV × Heap) :=
 kv1 args fun t_1 =>
 ob (S 34 [t_1] h) fun r2 => kres r2 (fun v3 h4 =>
 ob (kbinI .neq v3 (.int .i64 (.ofNat 3))) fun v7 =>
 kif v7
  ((some (false, (.int .i64 (.ofNat 0)), h4)))
  (ob (knil t_1) fun v8 =>
  ob (kfa 0 v8) fun v9 =>
  ob (kload h4 v9) fun v10 =>
  ob (klenL v10) fun v11 =>
  ob (iterD (fun vs12 ds13 h14 => kv5 vs12 fun t_15 codes_16 v17 v18 v19 =>
   ob (kbinI .lss v19 v18) fun v20 =>
   kif v20
    (ob (kia 1 v17 v19) fun v21 =>
    ob (kload h14 v21) fun v22 =>
    ob (knil t_15) fun v23 =>
    ob (kfa 2 v23) fun v24 =>
    ob (kload h14 v24) fun v25 =>
    ob (alookup Tryz.prog h14 138 v25 v22 false) fun v26 =>
    ob (knil v26) fun v27 =>
    ob (kload h14 v27) fun v28 =>
    ob (abuildSlice Tryz.prog 37 1 [(0, v28)]) fun r29 => Heap.pushK h14 (.cells r29.1 true r29.2.2) fun h30 =>
    ob (aappend Tryz.prog h30 37 37 codes_16 (.slice (Heap.next h14) 0 1 1 r29.2.1)) fun r31 =>
    ob (kbinI .add v19 (.int .i64 (.ofNat 1))) fun v32 =>
    (some ⟨0, [t_15, r31.1, v17, v18, v32], ds13, r31.2⟩))
    ((some ⟨1, [codes_16], ds13, h14⟩))) rounds [t_1, AV.nilslice, v10, v11, (.int .i64 (.ofNat 0))] [] h4) fun r33 => kcase (J.i r33) [kv1 (J.vs r33) fun codes_34 =>
   ob (S 252 [codes_34] (J.h r33)) fun r35 => kres r35 (fun v36 h37 =>
   (dleave (fun h40 => (some (false, v36, h40))) (J.ds r33) h37)) (fun p38 h39 => (kds (J.ds r33) (some (true, p38, h39))))])) (fun p5 h6 => (some (true, p5, h6)))
theorem F178_ok {S : FS} {D : FD} (hS : SpecsOK Tryz.prog S) (hD : DynOK Tryz.prog D) : SpecOK Tryz.prog 178 (F178 S D) :=
  SpecOK.of (c := match Tryz.f178.body with | some c => c | none => .skip) (by kernel_rfl) hS hD ⟨Tryz.func178, rfl, by decide⟩
    (.seq .n (.seq (.seq .n (.dup (.seq .n .n) .n)) (.seq .n (.seq (.seq .n (.one (.loop [0, 3, 12, 13, 14] [(.exit 0, [3])] (.seq .n (.seq (.dup .n .n) (.seq (.one (.seq .n .n)) .n)))))) (.seq .n .n))))) 1 (fun args h => by kernel_rfl)
/-- roundhouse/dag.Settle -/
noncomputable def F179 (S : FS) (D : FD) (args : List AV) (h : Heap) : Option (Bool × AV × Heap) :=
 kv2 args fun l_1 codes_2 =>
 knt codes_2 (Heap.pushK h (.cells (AV.cells codes_2) true 37) fun h3 =>
 ob (kload h3 (.ptr (Heap.next h) 0)) fun v4 =>
 ob (S 256 [l_1, v4] h3) fun r5 => kres r5 (fun v6 h7 =>
 ob (kbinI .neq v6 (.int .i64 (.ofNat 0))) fun v10 =>
 kif v10
  ((some (false, (.tuple [AV.nilslice, v6]), h7)))
  (ob (kload h7 (.ptr (Heap.next h) 0)) fun v11 =>
  ob (S 33 [v11] h7) fun r12 => kres r12 (fun v13 h14 =>
  ob (kstore 1 (.ptr (Heap.next h) 0) v13 h14) fun h17 =>
  ob (S 132 [l_1] h17) fun r18 => kres r18 (fun v19 h20 =>
  ob (klenL v19) fun v23 =>
  ob (iterD (fun vs24 ds25 h26 => kv5 vs24 fun l_27 codes_28 v29 v30 v31 =>
   ob (kbinI .lss v31 v30) fun v32 =>
   kif v32
    (ob (kia 1 v29 v31) fun v33 =>
    ob (kload h26 v33) fun v34 =>
    ob (kload h26 codes_28) fun v35 =>
    ob (kia 1 v35 v34) fun v36 =>
    ob (kload h26 v36) fun v37 =>
    ob (kbinI .eql v37 (.int .i64 (.negSucc 0))) fun v38 =>
    ob (kgv true v38 (some l_27)) fun v39 =>
    ob (kgv true v38 (some v34)) fun v40 =>
    ob (kgv true v38 (kia 5 v39 v40)) fun v41 =>
    ob (kgv true v38 (kfa 4 v41)) fun v42 =>
    ob (kgv true v38 (kload h26 v42)) fun v43 =>
    ob (kgv true v38 (some (.func 257 [codes_28]))) fun v44 =>
    ob (kgc true v38 h26 (S 259 [v43, v44] h26)) fun r45 => kres r45 (fun v46 h47 =>
    ob (kpick v38 v46 (.bool false)) fun v50 =>
    ob (kif v50
     (ob (kload h47 codes_28) fun v52 =>
     ob (kia 1 v52 v34) fun v53 =>
     ob (kstore 1 v53 (.int .i64 (.ofNat 256)) h47) fun h54 =>
     (some ⟨0, [l_27, codes_28, v29, v30, v31], ds25, h54⟩))
     ((some ⟨0, [l_27, codes_28, v29, v30, v31], ds25, h47⟩))) fun r51 => kcase (J.i r51) [kv5 (J.vs r51) fun l_55 codes_56 v57 v58 v59 =>
     ob (kbinI .add v59 (.int .i64 (.ofNat 1))) fun v60 =>
     (some ⟨0, [l_55, codes_56, v57, v58, v60], (J.ds r51), (J.h r51)⟩)]) (fun p48 h49 => (some ⟨2, [p48], ds25, h49⟩)))
    ((some ⟨1, [codes_28], ds25, h26⟩))) rounds [l_1, (.ptr (Heap.next h) 0), v19, v23, (.int .i64 (.ofNat 0))] [] h20) fun r61 => kcase (J.i r61) [kv1 (J.vs r61) fun codes_62 =>
   ob (kload (J.h r61) codes_62) fun v63 =>
   (dleave (fun h64 => (some (false, (.tuple [v63, (.int .i64 (.ofNat 0))]), h64))) (J.ds r61) (J.h r61)),
  kv1 (J.vs r61) fun p65 => (kds (J.ds r61) (some (true, p65, (J.h r61))))]) (fun p21 h22 => (some (true, p21, h22)))) (fun p15 h16 => (some (true, p15, h16))))) (fun p8 h9 => (some (true, p8, h9))))
theorem F179_ok {S : FS} {D : FD} (hS : SpecsOK Tryz.prog S) (hD : DynOK Tryz.prog D) : SpecOK Tryz.prog 179 (F179 S D) :=
  SpecOK.of (c := match Tryz.f179.body with | some c => c | none => .skip) (by kernel_rfl) hS hD ⟨Tryz.func179, rfl, by decide⟩
    (.seq .n (.seq (.seq .n (.seq .n (.dup (.seq .n .n) .n))) (.seq .n (.seq (.seq .n (.one (.loop [0, 3, 19, 20, 21] [(.exit 0, [3]), (.pan, [])] (.seq .n (.seq (.dup .n .n) (.seq (.one (.seq .n (.seq .n (.seq .n (.join [(.norm, [0, 3, 19, 20, 21])] (.dup .n .n)))))) .n)))))) (.seq .n .n))))) 2 (fun args h => by kernel_rfl)
/-- roundhouse/dag.Ready -/
noncomputable def F180 (S : FS) (D : FD) (args : List AV) (h : Heap) : Option (Bool × AV × Heap) :=
 kv2 args fun l_1 codes_2 =>
 ob (S 256 [l_1, codes_2] h) fun r3 => kres r3 (fun v4 h5 =>
 ob (kbinI .neq v4 (.int .i64 (.ofNat 0))) fun v8 =>
 kif v8
  ((some (false, (.tuple [AV.nilslice, v4]), h5)))
  (ob (klenL l_1) fun v9 =>
  ob (iterD (fun vs10 ds11 h12 => kv5 vs10 fun codes_13 ready_14 v15 v16 v17 =>
   ob (kbinI .lss v17 v16) fun v18 =>
   kif v18
    (ob (ob (kia 5 v15 v17) fun v20 =>
     ob (kloadN 5 h12 v20) fun v21 =>
     Heap.pushK h12 (.cells [(.int .i64 (.ofNat 0)), (.int .i64 (.ofNat 0)), (.int .i64 (.ofNat 0)), (.int .i64 (.ofNat 0)), AV.nilslice] true 50) fun h22 =>
     ob (kstore 5 (.ptr (Heap.next h12) 0) v21 h22) fun h23 =>
     ob (kia 1 codes_13 v17) fun v24 =>
     ob (kload h23 v24) fun v25 =>
     ob (kbinI .neq v25 (.int .i64 (.negSucc 0))) fun v26 =>
     kif v26
      ((some ⟨0, [codes_13, ready_14, v15, v16, v17], ds11, h23⟩))
      (ob (kfa 4 (.ptr (Heap.next h12) 0)) fun v27 =>
      ob (kload h23 v27) fun v28 =>
      ob (klenL v28) fun v29 =>
      ob (iterD (fun vs30 ds31 h32 => kv9 vs30 fun codes_33 ready_34 i_35 v36 v37 v38 v39 v40 v41 =>
       ob (kbinI .lss v41 v40) fun v42 =>
       kif v42
        (ob (kia 2 v39 v41) fun v43 =>
        ob (kloadN 2 h32 v43) fun v44 =>
        Heap.pushK h32 (.cells [(.int .i64 (.ofNat 0)), (.int .i64 (.ofNat 0))] true 148) fun h45 =>
        ob (kstore 2 (.ptr (Heap.next h32) 0) v44 h45) fun h46 =>
        ob (kloadN 2 h46 (.ptr (Heap.next h32) 0)) fun v47 =>
        ob (S 258 [v47, codes_33] h46) fun r48 => kres r48 (fun v49 h50 =>
        ob (aun .not v49) fun v53 =>
        kif v53
         ((some ⟨1, [codes_33, ready_34, v36, v37, v38], ds31, h50⟩))
         (ob (kbinI .add v41 (.int .i64 (.ofNat 1))) fun v54 =>
         (some ⟨0, [codes_33, ready_34, i_35, v36, v37, v38, v39, v40, v54], ds31, h50⟩))) (fun p51 h52 => (some ⟨3, [p51], ds31, h52⟩)))
        ((some ⟨2, [codes_33, ready_34, i_35, v36, v37, v38], ds31, h32⟩))) rounds [codes_13, ready_14, v17, v15, v16, v17, v28, v29, (.int .i64 (.ofNat 0))] ds11 h23) fun r55 => kcase (J.i r55) [kv5 (J.vs r55) fun codes_56 ready_57 v58 v59 v60 =>
       (some ⟨0, [codes_56, ready_57, v58, v59, v60], (J.ds r55), (J.h r55)⟩),
      kv6 (J.vs r55) fun codes_61 ready_62 i_63 v64 v65 v66 =>
       ob (abuildSlice Tryz.prog 37 1 [(0, i_63)]) fun r67 => Heap.pushK (J.h r55) (.cells r67.1 true r67.2.2) fun h68 =>
       ob (aappend Tryz.prog h68 37 37 ready_62 (.slice (Heap.next (J.h r55)) 0 1 1 r67.2.1)) fun r69 =>
       (some ⟨0, [codes_61, r69.1, v64, v65, v66], (J.ds r55), r69.2⟩),
      kv1 (J.vs r55) fun p70 => (some ⟨1, [p70], (J.ds r55), (J.h r55)⟩)])) fun r19 => kcase (J.i r19) [kv5 (J.vs r19) fun codes_71 ready_72 v73 v74 v75 =>
     ob (kbinI .add v75 (.int .i64 (.ofNat 1))) fun v76 =>
     (some ⟨0, [codes_71, ready_72, v73, v74, v76], (J.ds r19), (J.h r19)⟩),
    kv1 (J.vs r19) fun p77 => (some ⟨2, [p77], (J.ds r19), (J.h r19)⟩)])
    ((some ⟨1, [ready_14], ds11, h12⟩))) rounds [codes_2, AV.nilslice, l_1, v9, (.int .i64 (.ofNat 0))] [] h5) fun r78 => kcase (J.i r78) [kv1 (J.vs r78) fun ready_79 =>
   (dleave (fun h80 => (some (false, (.tuple [ready_79, (.int .i64 (.ofNat 0))]), h80))) (J.ds r78) (J.h r78)),
  kv1 (J.vs r78) fun p81 => (kds (J.ds r78) (some (true, p81, (J.h r78))))])) (fun p6 h7 => (some (true, p6, h7)))
theorem F180_ok {S : FS} {D : FD} (hS : SpecsOK Tryz.prog S) (hD : DynOK Tryz.prog D) : SpecOK Tryz.prog 180 (F180 S D) :=
  SpecOK.of (c := match Tryz.f180.body with | some c => c | none => .skip) (by kernel_rfl) hS hD ⟨Tryz.func180, rfl, by decide⟩
    (.seq .n (.one (.seq (.seq .n (.seq .n (.dup (.seq .n .n) .n))) (.seq .n (.seq .n (.seq (.seq .n (.one (.loop [1, 7, 18, 19, 20] [(.exit 0, [7]), (.pan, [])] (.seq .n (.seq (.dup .n .n) (.seq (.join [(.norm, [1, 7, 18, 19, 20]), (.pan, [])] (.one (.seq .n (.seq (.seq .n (.dup .n .n)) (.seq (.seq .n (.one (.loop [1, 7, 8, 18, 19, 20, 31, 32, 33] [(.exit 1, [1, 7, 18, 19, 20]), (.exit 2, [1, 7, 8, 18, 19, 20]), (.pan, [])] (.seq .n (.seq (.dup .n .n) (.seq (.one (.seq .n (.seq .n (.dup .n .n)))) .n)))))) .n))))) .n)))))) (.seq .n .n))))))) 2 (fun args h => by kernel_rfl)
/-- roundhouse/dag.Over -/
noncomputable def F181 (S : FS) (D : FD) (args : List AV) (h : Heap) : Option (Bool × AV × Heap) :=
 kv2 args fun l_1 codes_2 =>
 ob (S 179 [l_1, codes_2] h) fun r3 => kres r3 (fun v4 h5 =>
 ob (aextract v4 0) fun v8 =>
 ob (aextract v4 1) fun v9 =>
 ob (kbinI .neq v9 (.int .i64 (.ofNat 0))) fun v10 =>
 ob (kgv false v10 (some v8)) fun v11 =>
 ob (kgc false v10 h5 (S 153 [v11, (.int .i64 (.negSucc 0))] h5)) fun r12 => kres r12 (fun v13 h14 =>
 ob (kpick v10 (.bool true) v13) fun v17 =>
 kif v17
  ((some (false, (.tuple [(.int .i64 (.ofNat 0)), (.bool false)]), h14)))
  (ob (klenL v8) fun v18 =>
  ob (iterD (fun vs19 ds20 h21 => kv4 vs19 fun most_22 v23 v24 v25 =>
   ob (kbinI .lss v25 v24) fun v26 =>
   kif v26
    (ob (kia 1 v23 v25) fun v27 =>
    ob (kload h21 v27) fun v28 =>
    ob (kbinI .neq v28 (.int .i64 (.ofNat 256))) fun v29 =>
    ob (kif v29
     (ob (amaxs true [most_22, v28]) fun v31 =>
     (some ⟨0, [v31, v23, v24, v25], ds20, h21⟩))
     ((some ⟨0, [most_22, v23, v24, v25], ds20, h21⟩))) fun r30 => kcase (J.i r30) [kv4 (J.vs r30) fun most_32 v33 v34 v35 =>
     ob (kbinI .add v35 (.int .i64 (.ofNat 1))) fun v36 =>
     (some ⟨0, [most_32, v33, v34, v36], (J.ds r30), (J.h r30)⟩)])
    ((some ⟨1, [most_22], ds20, h21⟩))) rounds [(.int .i64 (.ofNat 0)), v8, v18, (.int .i64 (.ofNat 0))] [] h14) fun r37 => kcase (J.i r37) [kv1 (J.vs r37) fun most_38 =>
   (dleave (fun h39 => (some (false, (.tuple [most_38, (.bool true)]), h39))) (J.ds r37) (J.h r37))])) (fun p15 h16 => (some (true, p15, h16)))) (fun p6 h7 => (some (true, p6, h7)))
theorem F181_ok {S : FS} {D : FD} (hS : SpecsOK Tryz.prog S) (hD : DynOK Tryz.prog D) : SpecOK Tryz.prog 181 (F181 S D) :=
  SpecOK.of (c := match Tryz.f181.body with | some c => c | none => .skip) (by kernel_rfl) hS hD ⟨Tryz.func181, rfl, by decide⟩
    (.seq .n (.seq .n (.seq (.seq .n (.dup (.seq .n .n) .n)) (.seq .n (.seq (.seq .n (.one (.loop [7, 22, 23, 24] [(.exit 0, [7])] (.seq .n (.seq (.dup .n .n) (.seq (.one (.seq .n (.seq .n (.join [(.norm, [7, 22, 23, 24])] (.dup .n .n))))) .n)))))) (.seq .n .n)))))) 2 (fun args h => by kernel_rfl)
/-- (*roundhouse/ctl.job).finish -/
noncomputable def F182 (S : FS) (D : FD) (args : List AV) (h : Heap) : Option (Bool × AV × Heap) :=
 kv3 args fun x_1 fate_2 code_3 =>
 ob (knil x_1) fun v4 =>
 ob (kfa 4 v4) fun v5 =>
 ob (kstore 1 v5 (.int .i64 (.ofNat 2)) h) fun h6 =>
 ob (knil x_1) fun v7 =>
 ob (kfa 5 v7) fun v8 =>
 ob (kstore 1 v8 fate_2 h6) fun h9 =>
 ob (knil x_1) fun v10 =>
 ob (kfa 6 v10) fun v11 =>
 ob (kstore 1 v11 code_3 h9) fun h12 =>
 (some (false, (.tuple []), h12))
theorem F182_ok {S : FS} {D : FD} (hS : SpecsOK Tryz.prog S) (hD : DynOK Tryz.prog D) : SpecOK Tryz.prog 182 (F182 S D) :=
  SpecOK.of (c := match Tryz.f182.body with | some c => c | none => .skip) (by kernel_rfl) hS hD ⟨Tryz.func182, rfl, by decide⟩
    .n 3 (fun args h => by kernel_rfl)
/-- roundhouse/journal.kindMay -/
noncomputable def F183 (S : FS) (D : FD) (args : List AV) (h : Heap) : Option (Bool × AV × Heap) :=
 kv1 args fun kind_1 =>
 ob (kbinI .eql kind_1 (.int .i64 (.ofNat 0))) fun v2 =>
 ob (kgv false v2 (some kind_1)) fun v3 =>
 ob (kgv false v2 (kbinI .eql v3 (.int .i64 (.ofNat 1)))) fun v4 =>
 ob (kpick v2 (.bool true) v4) fun v5 =>
 (some (false, v5, h))
theorem F183_ok {S : FS} {D : FD} (hS : SpecsOK Tryz.prog S) (hD : DynOK Tryz.prog D) : SpecOK Tryz.prog 183 (F183 S D) :=
  SpecOK.of (c := match Tryz.f183.body with | some c => c | none => .skip) (by kernel_rfl) hS hD ⟨Tryz.func183, rfl, by decide⟩
    (.seq .n (.seq .n .n)) 1 (fun args h => by kernel_rfl)
/-- roundhouse/journal.Record -/
noncomputable def F184 (S : FS) (D : FD) (args : List AV) (h : Heap) : Option (Bool × AV × Heap) :=
 kv2 args fun kind_1 s_2 =>
 ob (S 183 [kind_1] h) fun r3 => kres r3 (fun v4 h5 =>
 ob (aun .not v4) fun v8 =>
 ob (kgv false v8 (some s_2)) fun v9 =>
 ob (kgv false v8 (klenS v9)) fun v10 =>
 ob (kgv false v8 (kbinI .gtr v10 (.int .i64 (.ofNat 4096)))) fun v11 =>
 ob (kpick v8 (.bool true) v11) fun v12 =>
 kif v12
  ((some (false, (.str 0 0), h5)))
  (ob (kconvI .u8 kind_1) fun v13 =>
  kfree h5 (ob (abuildSlice Tryz.prog 254 2 [(0, (.int .u8 (.ofNat 74))), (1, v13)]) fun r14 => Heap.pushK h5 (.cells r14.1 true r14.2.2) fun h15 =>
  ob (kbytes h15 (.slice (Heap.next h5) 0 2 2 r14.2.1)) fun v16 =>
  ob (S 150 [s_2] h15) fun r17 => kres r17 (fun v18 h19 =>
  kre (kbytes h19 (.slice (Heap.next h5) 0 2 2 r14.2.1)) v16 (kro (Heap.next h5) h15 h19 (ob (kbinS .add v16 v18) fun v22 =>
  ob (S 260 [v22] h19) fun r23 => kres r23 (fun v24 h25 =>
  ob (aslice Tryz.prog 9 v24 none (some (.int .i64 (.ofNat 4))) none) fun v28 =>
  ob (kbinS .add v22 v28) fun v29 =>
  (some (false, v29, h25))) (fun p26 h27 => (some (true, p26, h27)))))) (fun p20 h21 => none)))) (fun p6 h7 => (some (true, p6, h7)))
theorem F184_ok {S : FS} {D : FD} (hS : SpecsOK Tryz.prog S) (hD : DynOK Tryz.prog D) : SpecOK Tryz.prog 184 (F184 S D) :=
  SpecOK.of (c := match Tryz.f184.body with | some c => c | none => .skip) (by kernel_rfl) hS hD ⟨Tryz.func184, rfl, by decide⟩
    (.seq .n (.seq (.seq .n (.dup (.seq .n .n) .n)) (.seq .n (.seq .n .n)))) 2 (fun args h => by kernel_rfl)
/-- (*roundhouse/wire.Reader).bytes -/
noncomputable def F186 (S : FS) (D : FD) (args : List AV) (h : Heap) : Option (Bool × AV × Heap) :=
 kv3 args fun r_1 n_2 from_3 =>
 ob (knil r_1) fun v4 =>
 ob (kfa 0 v4) fun v5 =>
 ob (kload h v5) fun v6 =>
 ob (klenS v6) fun v7 =>
 ob (knil r_1) fun v8 =>
 ob (kfa 1 v8) fun v9 =>
 ob (kload h v9) fun v10 =>
 ob (kbinI .sub v7 v10) fun v11 =>
 ob (kbinI .leq n_2 v11) fun v12 =>
 ob (S 187 [v12, from_3, (.int .i64 (.ofNat 2))] h) fun r13 => kres r13 (fun v14 h15 =>
 ob (knil r_1) fun v18 =>
 ob (kfa 0 v18) fun v19 =>
 ob (kload h15 v19) fun v20 =>
 ob (knil r_1) fun v21 =>
 ob (kfa 1 v21) fun v22 =>
 ob (kload h15 v22) fun v23 =>
 ob (knil r_1) fun v24 =>
 ob (kfa 1 v24) fun v25 =>
 ob (kload h15 v25) fun v26 =>
 ob (kbinI .add v26 n_2) fun v27 =>
 ob (aslice Tryz.prog 9 v20 (some v23) (some v27) none) fun v28 =>
 ob (knil r_1) fun v29 =>
 ob (kfa 1 v29) fun v30 =>
 ob (kload h15 v30) fun v31 =>
 ob (kbinI .add v31 n_2) fun v32 =>
 ob (knil r_1) fun v33 =>
 ob (kfa 1 v33) fun v34 =>
 ob (kstore 1 v34 v32 h15) fun h35 =>
 (some (false, v28, h35))) (fun p16 h17 => (some (true, p16, h17)))
theorem F186_ok {S : FS} {D : FD} (hS : SpecsOK Tryz.prog S) (hD : DynOK Tryz.prog D) : SpecOK Tryz.prog 186 (F186 S D) :=
  SpecOK.of (c := match Tryz.f186.body with | some c => c | none => .skip) (by kernel_rfl) hS hD ⟨Tryz.func186, rfl, by decide⟩
    (.seq .n (.seq .n (.seq .n (.seq .n (.seq .n .n))))) 3 (fun args h => by kernel_rfl)
/-- roundhouse/wire.must -/
noncomputable def F187 (S : FS) (D : FD) (args : List AV) (h : Heap) : Option (Bool × AV × Heap) :=
 kv3 args fun holds_1 at_2 e_3 =>
 ob (aun .not holds_1) fun v4 =>
 kif v4
  (ob (abuild Tryz.prog 301 [(0, at_2), (1, e_3)]) fun v5 =>
  kpan (.iface 301 v5) fun p6 => (some (true, p6, h)))
  ((some (false, (.tuple []), h)))
theorem F187_ok {S : FS} {D : FD} (hS : SpecsOK Tryz.prog S) (hD : DynOK Tryz.prog D) : SpecOK Tryz.prog 187 (F187 S D) :=
  SpecOK.of (c := match Tryz.f187.body with | some c => c | none => .skip) (by kernel_rfl) hS hD ⟨Tryz.func187, rfl, by decide⟩
    (.seq .n (.dup .n .n)) 3 (fun args h => by kernel_rfl)
/-- roundhouse/wire.may -/
noncomputable def F188 (S : FS) (D : FD) (args : List AV) (h : Heap) : Option (Bool × AV × Heap) :=
 kv1 args fun n_1 =>
 ob (kbinI .geq n_1 (.int .i64 (.ofNat 0))) fun v2 =>
 ob (kgv true v2 (some n_1)) fun v3 =>
 ob (kgv true v2 (kbinI .leq v3 (.int .i64 (.ofNat 1099511627776)))) fun v4 =>
 ob (kpick v2 v4 (.bool false)) fun v5 =>
 (some (false, v5, h))
theorem F188_ok {S : FS} {D : FD} (hS : SpecsOK Tryz.prog S) (hD : DynOK Tryz.prog D) : SpecOK Tryz.prog 188 (F188 S D) :=
  SpecOK.of (c := match Tryz.f188.body with | some c => c | none => .skip) (by kernel_rfl) hS hD ⟨Tryz.func188, rfl, by decide⟩
    (.seq .n (.seq .n .n)) 1 (fun args h => by kernel_rfl)
/-- slices.pdqsortOrdered[int] -/
noncomputable def F190 (S : FS) (D : FD) (args : List AV) (h : Heap) : Option (Bool × AV × Heap) :=
 kv4 args fun data_1 a_2 b_3 limit_4 =>
 ob (iterD (fun vs5 ds6 h7 => kv6 vs5 fun data_8 a_9 b_10 limit_11 wasBalanced_12 wasPartitioned_13 =>
  ob (ob (kbinI .sub b_10 a_9) fun v15 =>
   ob (kbinI .leq v15 (.int .i64 (.ofNat 12))) fun v16 =>
   kif v16
    (ob (S 261 [data_8, a_9, b_10] h7) fun r17 => kres r17 (fun v18 h19 =>
    (some ⟨1, [], ds6, h19⟩)) (fun p20 h21 => (some ⟨2, [p20], ds6, h21⟩)))
    (ob (kbinI .eql limit_11 (.int .i64 (.ofNat 0))) fun v22 =>
    kif v22
     (ob (S 262 [data_8, a_9, b_10] h7) fun r23 => kres r23 (fun v24 h25 =>
     (some ⟨1, [], ds6, h25⟩)) (fun p26 h27 => (some ⟨2, [p26], ds6, h27⟩)))
     (ob (aun .not wasBalanced_12) fun v28 =>
     ob (kif v28
      (ob (S 263 [data_8, a_9, b_10] h7) fun r30 => kres r30 (fun v31 h32 =>
      ob (kbinI .sub limit_11 (.int .i64 (.ofNat 1))) fun v35 =>
      (some ⟨0, [data_8, a_9, b_10, v35, wasBalanced_12, wasPartitioned_13, v15], ds6, h32⟩)) (fun p33 h34 => (some ⟨1, [p33], ds6, h34⟩)))
      ((some ⟨0, [data_8, a_9, b_10, limit_11, wasBalanced_12, wasPartitioned_13, v15], ds6, h7⟩))) fun r29 => kcase (J.i r29) [kv7 (J.vs r29) fun data_36 a_37 b_38 limit_39 wasBalanced_40 wasPartitioned_41 length_42 =>
      ob (S 264 [data_36, a_37, b_38] (J.h r29)) fun r43 => kres r43 (fun v44 h45 =>
      ob (aextract v44 0) fun v48 =>
      ob (aextract v44 1) fun v49 =>
      ob (kbinI .eql v49 (.int .i64 (.ofNat 2))) fun v50 =>
      ob (kif v50
       (ob (S 265 [data_36, a_37, b_38] h45) fun r52 => kres r52 (fun v53 h54 =>
       ob (kbinI .sub b_38 (.int .i64 (.ofNat 1))) fun v57 =>
       ob (kbinI .sub v48 a_37) fun v58 =>
       ob (kbinI .sub v57 v58) fun v59 =>
       (some ⟨0, [data_36, a_37, b_38, limit_39, wasBalanced_40, wasPartitioned_41, length_42, v59, (.int .i64 (.ofNat 1))], (J.ds r29), h54⟩)) (fun p55 h56 => (some ⟨1, [p55], (J.ds r29), h56⟩)))
       ((some ⟨0, [data_36, a_37, b_38, limit_39, wasBalanced_40, wasPartitioned_41, length_42, v48, v49], (J.ds r29), h45⟩))) fun r51 => kcase (J.i r51) [kv9 (J.vs r51) fun data_60 a_61 b_62 limit_63 wasBalanced_64 wasPartitioned_65 length_66 pivot_67 hint_68 =>
       ob (kgv true wasBalanced_64 (some wasPartitioned_65)) fun v69 =>
       ob (kpick wasBalanced_64 v69 (.bool false)) fun v70 =>
       ob (kgv true v70 (some hint_68)) fun v71 =>
       ob (kgv true v70 (kbinI .eql v71 (.int .i64 (.ofNat 1)))) fun v72 =>
       ob (kpick v70 v72 (.bool false)) fun v73 =>
       ob (kif v73
        (ob (S 266 [data_60, a_61, b_62] (J.h r51)) fun r75 => kres r75 (fun v76 h77 =>
        kif v76
         ((some ⟨1, [], (J.ds r51), h77⟩))
         ((some ⟨0, [data_60, a_61, b_62, limit_63, wasBalanced_64, wasPartitioned_65, length_66, pivot_67], (J.ds r51), h77⟩))) (fun p78 h79 => (some ⟨2, [p78], (J.ds r51), h79⟩)))
        ((some ⟨0, [data_60, a_61, b_62, limit_63, wasBalanced_64, wasPartitioned_65, length_66, pivot_67], (J.ds r51), (J.h r51)⟩))) fun r74 => kcase (J.i r74) [kv8 (J.vs r74) fun data_80 a_81 b_82 limit_83 wasBalanced_84 wasPartitioned_85 length_86 pivot_87 =>
        ob (kbinI .gtr a_81 (.int .i64 (.ofNat 0))) fun v88 =>
        ob (kgv true v88 (some data_80)) fun v89 =>
        ob (kgv true v88 (some a_81)) fun v90 =>
        ob (kgv true v88 (kbinI .sub v90 (.int .i64 (.ofNat 1)))) fun v91 =>
        ob (kgv true v88 (kia 1 v89 v91)) fun v92 =>
        ob (kgv true v88 (kload (J.h r74) v92)) fun v93 =>
        ob (kgv true v88 (some data_80)) fun v94 =>
        ob (kgv true v88 (some pivot_87)) fun v95 =>
        ob (kgv true v88 (kia 1 v94 v95)) fun v96 =>
        ob (kgv true v88 (kload (J.h r74) v96)) fun v97 =>
        ob (kgc true v88 (J.h r74) (S 267 [v93, v97] (J.h r74))) fun r98 => kres r98 (fun v99 h100 =>
        ob (kgv true v88 (aun .not v99)) fun v103 =>
        ob (kpick v88 v103 (.bool false)) fun v104 =>
        kif v104
         (ob (S 268 [data_80, a_81, b_82, pivot_87] h100) fun r105 => kres r105 (fun v106 h107 =>
         (some ⟨0, [data_80, v106, b_82, limit_83, wasBalanced_84, wasPartitioned_85], (J.ds r74), h107⟩)) (fun p108 h109 => (some ⟨2, [p108], (J.ds r74), h109⟩)))
         (ob (S 269 [data_80, a_81, b_82, pivot_87] h100) fun r110 => kres r110 (fun v111 h112 =>
         ob (aextract v111 0) fun v115 =>
         ob (aextract v111 1) fun v116 =>
         ob (kbinI .sub v115 a_81) fun v117 =>
         ob (kbinI .sub b_82 v115) fun v118 =>
         ob (kbinI .quo length_86 (.int .i64 (.ofNat 8))) fun v119 =>
         ob (kbinI .lss v117 v118) fun v120 =>
         ob (kif v120
          (ob (kbinI .geq v117 v119) fun v122 =>
          ob (S 190 [data_80, a_81, v115, limit_83] h112) fun r123 => kres r123 (fun v124 h125 =>
          ob (kbinI .add v115 (.int .i64 (.ofNat 1))) fun v128 =>
          (some ⟨0, [data_80, v128, b_82, limit_83, v122, v116], (J.ds r74), h125⟩)) (fun p126 h127 => (some ⟨1, [p126], (J.ds r74), h127⟩)))
          (ob (kbinI .geq v118 v119) fun v129 =>
          ob (kbinI .add v115 (.int .i64 (.ofNat 1))) fun v130 =>
          ob (S 190 [data_80, v130, b_82, limit_83] h112) fun r131 => kres r131 (fun v132 h133 =>
          (some ⟨0, [data_80, a_81, v115, limit_83, v129, v116], (J.ds r74), h133⟩)) (fun p134 h135 => (some ⟨1, [p134], (J.ds r74), h135⟩)))) fun r121 => kcase (J.i r121) [kv6 (J.vs r121) fun data_136 a_137 b_138 limit_139 wasBalanced_140 wasPartitioned_141 =>
          (some ⟨0, [data_136, a_137, b_138, limit_139, wasBalanced_140, wasPartitioned_141], (J.ds r121), (J.h r121)⟩),
         kv1 (J.vs r121) fun p142 => (some ⟨2, [p142], (J.ds r121), (J.h r121)⟩)]) (fun p113 h114 => (some ⟨2, [p113], (J.ds r74), h114⟩)))) (fun p101 h102 => (some ⟨2, [p101], (J.ds r74), h102⟩)),
       kv0 (J.vs r74) ((some ⟨1, [], (J.ds r74), (J.h r74)⟩)),
       kv1 (J.vs r74) fun p143 => (some ⟨2, [p143], (J.ds r74), (J.h r74)⟩)],
      kv1 (J.vs r51) fun p144 => (some ⟨2, [p144], (J.ds r51), (J.h r51)⟩)]) (fun p46 h47 => (some ⟨2, [p46], (J.ds r29), h47⟩)),
     kv1 (J.vs r29) fun p145 => (some ⟨2, [p145], (J.ds r29), (J.h r29)⟩)]))) fun r14 => kcase (J.i r14) [kv6 (J.vs r14) fun data_146 a_147 b_148 limit_149 wasBalanced_150 wasPartitioned_151 =>
   (some ⟨0, [data_146, a_147, b_148, limit_149, wasBalanced_150, wasPartitioned_151], (J.ds r14), (J.h r14)⟩),
  kv0 (J.vs r14) ((some ⟨1, [], (J.ds r14), (J.h r14)⟩)),
  kv1 (J.vs r14) fun p152 => (some ⟨2, [p152], (J.ds r14), (J.h r14)⟩)]) rounds [data_1, a_2, b_3, limit_4, (.bool true), (.bool true)] [] h) fun r153 => kcase (J.i r153) [kv0 (J.vs r153) ((dleave (fun h154 => (some (false, (.tuple []), h154))) (J.ds r153) (J.h r153))),
 kv1 (J.vs r153) fun p155 => (kds (J.ds r153) (some (true, p155, (J.h r153))))]
theorem F190_ok {S : FS} {D : FD} (hS : SpecsOK Tryz.prog S) (hD : DynOK Tryz.prog D) : SpecOK Tryz.prog 190 (F190 S D) :=
  SpecOK.of (c := match Tryz.f190.body with | some c => c | none => .skip) (by kernel_rfl) hS hD ⟨Tryz.func190, rfl, by decide⟩
    (.seq .n (.seq .n (.one (.loop [0, 1, 2, 3, 8, 9] [(.ret, []), (.pan, [])] (.join [(.norm, [0, 1, 2, 3, 8, 9]), (.ret, []), (.pan, [])] (.one (.seq .n (.seq (.seq .n (.dup (.seq .n .n) .n)) (.seq (.seq .n (.dup (.seq .n .n) .n)) (.seq (.seq .n (.join [(.norm, [0, 1, 2, 3, 8, 9, 10]), (.pan, [])] (.dup (.seq .n .n) .n))) (.seq .n (.seq (.seq .n (.join [(.norm, [0, 1, 2, 3, 8, 9, 10, 11, 12]), (.pan, [])] (.dup (.seq .n (.seq .n .n)) .n))) (.seq (.seq .n (.join [(.norm, [0, 1, 2, 3, 8, 9, 10, 11]), (.ret, []), (.pan, [])] (.dup (.seq .n (.dup .n .n)) .n))) (.seq (.seq .n (.dup (.seq .n (.seq .n .n)) .n)) (.seq .n (.seq .n (.seq .n (.seq .n (.seq .n (.join [(.norm, [0, 1, 2, 3, 8, 9]), (.pan, [])] (.dup (.seq .n (.seq .n .n)) (.seq .n (.seq .n .n))))))))))))))))))))))) 4 (fun args h => by kernel_rfl)
/-- math/bits.Len -/
noncomputable def F191 (S : FS) (D : FD) (args : List AV) (h : Heap) : Option (Bool × AV × Heap) :=
 kv1 args fun x_1 =>
 kif (.bool false)
  (ob (kconvI .u32 x_1) fun v2 =>
  ob (S 270 [v2] h) fun r3 => kres r3 (fun v4 h5 =>
  (some (false, v4, h5))) (fun p6 h7 => (some (true, p6, h7))))
  (ob (S 271 [x_1] h) fun r8 => kres r8 (fun v9 h10 =>
  (some (false, v9, h10))) (fun p11 h12 => (some (true, p11, h12))))
theorem F191_ok {S : FS} {D : FD} (hS : SpecsOK Tryz.prog S) (hD : DynOK Tryz.prog D) : SpecOK Tryz.prog 191 (F191 S D) :=
  SpecOK.of (c := match Tryz.f191.body with | some c => c | none => .skip) (by kernel_rfl) hS hD ⟨Tryz.func191, rfl, by decide⟩
    (.seq .n (.seq (.dup (.seq .n .n) .n) (.seq .n .n))) 1 (fun args h => by kernel_rfl)
/-- roundhouse/tally.empty[bool] -/
noncomputable def F192 (S : FS) (D : FD) (args : List AV) (h : Heap) : Option (Bool × AV × Heap) :=
 kv1 args fun nodes_1 =>
 Heap.pushK h (.map [] [] 0) fun h2 =>
 ob (klenL nodes_1) fun v3 =>
 ob (iterD (fun vs4 ds5 h6 => kv4 vs4 fun m_7 v8 v9 v10 =>
  ob (kbinI .lss v10 v9) fun v11 =>
  kif v11
   (ob (kia 1 v8 v10) fun v12 =>
   ob (kload h6 v12) fun v13 =>
   ob (amapSet Tryz.prog h6 137 m_7 v13 AV.nilptr) fun h14 =>
   ob (kbinI .add v10 (.int .i64 (.ofNat 1))) fun v15 =>
   (some ⟨0, [m_7, v8, v9, v15], ds5, h14⟩))
   ((some ⟨1, [m_7], ds5, h6⟩))) rounds [(.map (Heap.next h)), nodes_1, v3, (.int .i64 (.ofNat 0))] [] h2) fun r16 => kcase (J.i r16) [kv1 (J.vs r16) fun m_17 =>
  (dleave (fun h18 => (some (false, m_17, h18))) (J.ds r16) (J.h r16))]
theorem F192_ok {S : FS} {D : FD} (hS : SpecsOK Tryz.prog S) (hD : DynOK Tryz.prog D) : SpecOK Tryz.prog 192 (F192 S D) :=
  SpecOK.of (c := match Tryz.f192.body with | some c => c | none => .skip) (by kernel_rfl) hS hD ⟨Tryz.func192, rfl, by decide⟩
    (.seq .n (.seq .n (.seq (.seq .n (.one (.loop [3, 7, 8, 9] [(.exit 0, [3])] (.seq .n (.seq (.dup .n .n) (.seq (.one (.seq .n .n)) .n)))))) (.seq .n .n)))) 1 (fun args h => by kernel_rfl)
/-- roundhouse/tally.empty[int] -/
noncomputable def F193 (S : FS) (D : FD) (args : List AV) (h : Heap) : Option (Bool × AV × Heap) :=
 kv1 args fun nodes_1 =>
 Heap.pushK h (.map [] [] 0) fun h2 =>
 ob (klenL nodes_1) fun v3 =>
 ob (iterD (fun vs4 ds5 h6 => kv4 vs4 fun m_7 v8 v9 v10 =>
  ob (kbinI .lss v10 v9) fun v11 =>
  kif v11
   (ob (kia 1 v8 v10) fun v12 =>
   ob (kload h6 v12) fun v13 =>
   ob (amapSet Tryz.prog h6 138 m_7 v13 AV.nilptr) fun h14 =>
   ob (kbinI .add v10 (.int .i64 (.ofNat 1))) fun v15 =>
   (some ⟨0, [m_7, v8, v9, v15], ds5, h14⟩))
   ((some ⟨1, [m_7], ds5, h6⟩))) rounds [(.map (Heap.next h)), nodes_1, v3, (.int .i64 (.ofNat 0))] [] h2) fun r16 => kcase (J.i r16) [kv1 (J.vs r16) fun m_17 =>
  (dleave (fun h18 => (some (false, m_17, h18))) (J.ds r16) (J.h r16))]
theorem F193_ok {S : FS} {D : FD} (hS : SpecsOK Tryz.prog S) (hD : DynOK Tryz.prog D) : SpecOK Tryz.prog 193 (F193 S D) :=
  SpecOK.of (c := match Tryz.f193.body with | some c => c | none => .skip) (by kernel_rfl) hS hD ⟨Tryz.func193, rfl, by decide⟩
    (.seq .n (.seq .n (.seq (.seq .n (.one (.loop [3, 7, 8, 9] [(.exit 0, [3])] (.seq .n (.seq (.dup .n .n) (.seq (.one (.seq .n .n)) .n)))))) (.seq .n .n)))) 1 (fun args h => by kernel_rfl)
/-- math/bits.Mul -/
noncomputable def F194 (S : FS) (D : FD) (args : List AV) (h : Heap) : Option (Bool × AV × Heap) :=
 kv2 args fun x_1 y_2 =>
 kif (.bool false)
  (ob (kconvI .u32 x_1) fun v3 =>
  ob (kconvI .u32 y_2) fun v4 =>
  ob (S 272 [v3, v4] h) fun r5 => kres r5 (fun v6 h7 =>
  ob (aextract v6 0) fun v10 =>
  ob (aextract v6 1) fun v11 =>
  ob (kconvI .u64 v10) fun v12 =>
  ob (kconvI .u64 v11) fun v13 =>
  (some (false, (.tuple [v12, v13]), h7))) (fun p8 h9 => (some (true, p8, h9))))
  (ob (S 273 [x_1, y_2] h) fun r14 => kres r14 (fun v15 h16 =>
  ob (aextract v15 0) fun v19 =>
  ob (aextract v15 1) fun v20 =>
  (some (false, (.tuple [v19, v20]), h16))) (fun p17 h18 => (some (true, p17, h18))))
theorem F194_ok {S : FS} {D : FD} (hS : SpecsOK Tryz.prog S) (hD : DynOK Tryz.prog D) : SpecOK Tryz.prog 194 (F194 S D) :=
  SpecOK.of (c := match Tryz.f194.body with | some c => c | none => .skip) (by kernel_rfl) hS hD ⟨Tryz.func194, rfl, by decide⟩
    (.seq .n (.seq (.dup (.seq .n (.seq .n .n)) .n) (.seq .n (.seq .n .n)))) 2 (fun args h => by kernel_rfl)
/-- roundhouse/agent.number -/
noncomputable def F195 (S : FS) (D : FD) (args : List AV) (h : Heap) : Option (Bool × AV × Heap) :=
 kv3 args fun job_1 epoch_2 step_3 =>
 ob (kbinI .mul (.int .i64 (.ofNat 256)) job_1) fun v4 =>
 ob (kbinI .mul (.int .i64 (.ofNat 16)) epoch_2) fun v5 =>
 ob (kbinI .add v4 v5) fun v6 =>
 ob (kbinI .add v6 step_3) fun v7 =>
 (some (false, v7, h))
theorem F195_ok {S : FS} {D : FD} (hS : SpecsOK Tryz.prog S) (hD : DynOK Tryz.prog D) : SpecOK Tryz.prog 195 (F195 S D) :=
  SpecOK.of (c := match Tryz.f195.body with | some c => c | none => .skip) (by kernel_rfl) hS hD ⟨Tryz.func195, rfl, by decide⟩
    (.seq .n (.seq .n .n)) 3 (fun args h => by kernel_rfl)
/-- roundhouse/ladder.Check -/
noncomputable def F196 (S : FS) (D : FD) (args : List AV) (h : Heap) : Option (Bool × AV × Heap) :=
 kv1 args fun p_1 =>
 knt p_1 (Heap.pushK h (.cells (AV.cells p_1) true 194) fun h2 =>
 ob (kfa 0 (.ptr (Heap.next h) 0)) fun v3 =>
 ob (kload h2 v3) fun v4 =>
 ob (S 197 [v4, (.int .i64 (.ofNat 1)), (.int .i64 (.ofNat 1073741824))] h2) fun r5 => kres r5 (fun v6 h7 =>
 ob (aun .not v6) fun v10 =>
 ob (kgv false v10 (kfa 1 (.ptr (Heap.next h) 0))) fun v11 =>
 ob (kgv false v10 (kload h7 v11)) fun v12 =>
 ob (kgv false v10 (kfa 0 (.ptr (Heap.next h) 0))) fun v13 =>
 ob (kgv false v10 (kload h7 v13)) fun v14 =>
 ob (kgc false v10 h7 (S 197 [v12, (.int .i64 (.ofNat 0)), v14] h7)) fun r15 => kres r15 (fun v16 h17 =>
 ob (kgv false v10 (aun .not v16)) fun v20 =>
 ob (kpick v10 (.bool true) v20) fun v21 =>
 ob (kgv false v21 (kfa 2 (.ptr (Heap.next h) 0))) fun v22 =>
 ob (kgv false v21 (kload h17 v22)) fun v23 =>
 ob (kgc false v21 h17 (S 197 [v23, (.int .i64 (.ofNat 0)), (.int .i64 (.ofNat 1073741824))] h17)) fun r24 => kres r24 (fun v25 h26 =>
 ob (kgv false v21 (aun .not v25)) fun v29 =>
 ob (kpick v21 (.bool true) v29) fun v30 =>
 ob (kgv false v30 (kfa 3 (.ptr (Heap.next h) 0))) fun v31 =>
 ob (kgv false v30 (kload h26 v31)) fun v32 =>
 ob (kgc false v30 h26 (S 197 [v32, (.int .i64 (.ofNat 0)), (.int .i64 (.ofNat 1073741824))] h26)) fun r33 => kres r33 (fun v34 h35 =>
 ob (kgv false v30 (aun .not v34)) fun v38 =>
 ob (kpick v30 (.bool true) v38) fun v39 =>
 kif v39
  ((some (false, (.int .i64 (.ofNat 1)), h35)))
  ((some (false, (.int .i64 (.ofNat 0)), h35)))) (fun p36 h37 => (some (true, p36, h37)))) (fun p27 h28 => (some (true, p27, h28)))) (fun p18 h19 => (some (true, p18, h19)))) (fun p8 h9 => (some (true, p8, h9))))
theorem F196_ok {S : FS} {D : FD} (hS : SpecsOK Tryz.prog S) (hD : DynOK Tryz.prog D) : SpecOK Tryz.prog 196 (F196 S D) :=
  SpecOK.of (c := match Tryz.f196.body with | some c => c | none => .skip) (by kernel_rfl) hS hD ⟨Tryz.func196, rfl, by decide⟩
    (.seq .n (.seq (.seq .n (.dup (.seq .n .n) .n)) (.seq .n .n))) 1 (fun args h => by kernel_rfl)
/-- roundhouse/ladder.in -/
noncomputable def F197 (S : FS) (D : FD) (args : List AV) (h : Heap) : Option (Bool × AV × Heap) :=
 kv3 args fun n_1 least_2 most_3 =>
 ob (kbinI .geq n_1 least_2) fun v4 =>
 ob (kgv true v4 (some n_1)) fun v5 =>
 ob (kgv true v4 (some most_3)) fun v6 =>
 ob (kgv true v4 (kbinI .leq v5 v6)) fun v7 =>
 ob (kpick v4 v7 (.bool false)) fun v8 =>
 (some (false, v8, h))
theorem F197_ok {S : FS} {D : FD} (hS : SpecsOK Tryz.prog S) (hD : DynOK Tryz.prog D) : SpecOK Tryz.prog 197 (F197 S D) :=
  SpecOK.of (c := match Tryz.f197.body with | some c => c | none => .skip) (by kernel_rfl) hS hD ⟨Tryz.func197, rfl, by decide⟩
    (.seq .n (.seq .n .n)) 3 (fun args h => by kernel_rfl)
/-- roundhouse/ladder.End -/
noncomputable def F198 (S : FS) (D : FD) (args : List AV) (h : Heap) : Option (Bool × AV × Heap) :=
 kv2 args fun p_1 r_2 =>
 knt p_1 (Heap.pushK h (.cells (AV.cells p_1) true 194) fun h3 =>
 knt r_2 (Heap.pushK h3 (.cells (AV.cells r_2) true 196) fun h4 =>
 ob (kloadN 4 h4 (.ptr (Heap.next h) 0)) fun v5 =>
 ob (kloadN 2 h4 (.ptr (Heap.next h3) 0)) fun v6 =>
 ob (S 139 [v5, v6] h4) fun r7 => kres r7 (fun v8 h9 =>
 ob (aun .not v8) fun v12 =>
 kif v12
  ((some (false, (.int .i64 (.negSucc 0)), h9)))
  (ob (kfa 0 (.ptr (Heap.next h3) 0)) fun v13 =>
  ob (kload h9 v13) fun v14 =>
  ob (kfa 0 (.ptr (Heap.next h) 0)) fun v15 =>
  ob (kload h9 v15) fun v16 =>
  ob (kbinI .add v14 v16) fun v17 =>
  ob (kfa 1 (.ptr (Heap.next h3) 0)) fun v18 =>
  ob (kload h9 v18) fun v19 =>
  ob (kbinI .neq v19 (.int .i64 (.negSucc 0))) fun v20 =>
  ob (kif v20
   (ob (kfa 1 (.ptr (Heap.next h3) 0)) fun v22 =>
   ob (kload h9 v22) fun v23 =>
   ob (amaxs false [v17, v23]) fun v24 =>
   (some ⟨0, [v24], [], h9⟩))
   ((some ⟨0, [v17], [], h9⟩))) fun r21 => kcase (J.i r21) [kv1 (J.vs r21) fun end_25 =>
   (dleave (fun h26 => (some (false, end_25, h26))) (J.ds r21) (J.h r21))])) (fun p10 h11 => (some (true, p10, h11)))))
theorem F198_ok {S : FS} {D : FD} (hS : SpecsOK Tryz.prog S) (hD : DynOK Tryz.prog D) : SpecOK Tryz.prog 198 (F198 S D) :=
  SpecOK.of (c := match Tryz.f198.body with | some c => c | none => .skip) (by kernel_rfl) hS hD ⟨Tryz.func198, rfl, by decide⟩
    (.seq .n (.seq (.seq .n (.dup (.seq .n .n) .n)) (.seq .n (.seq (.seq .n (.join [(.norm, [5])] (.dup .n .n))) (.seq .n .n))))) 2 (fun args h => by kernel_rfl)
/-- (*roundhouse/procs.Table).find -/
noncomputable def F199 (S : FS) (D : FD) (args : List AV) (h : Heap) : Option (Bool × AV × Heap) :=
 kv3 args fun t_1 pid_2 state_3 =>
 ob (kbinO Tryz.prog .eql 66 true t_1 AV.nilptr) fun v4 =>
 ob (kgv false v4 (some t_1)) fun v5 =>
 ob (kgv false v4 (knil v5)) fun v6 =>
 ob (kgv false v4 (kfa 0 v6)) fun v7 =>
 ob (kgv false v4 (kload h v7)) fun v8 =>
 ob (kgv false v4 (some pid_2)) fun v9 =>
 ob (kgv false v4 (alookup Tryz.prog h 172 v8 v9 false)) fun v10 =>
 ob (kgv false v4 (kbinO Tryz.prog .eql 173 true v10 AV.nilptr)) fun v11 =>
 ob (kpick v4 (.bool true) v11) fun v12 =>
 kif v12
  ((some (false, (.tuple [AV.nilptr, (.int .i64 (.ofNat 1))]), h)))
  (ob (knil t_1) fun v13 =>
  ob (kfa 0 v13) fun v14 =>
  ob (kload h v14) fun v15 =>
  ob (alookup Tryz.prog h 172 v15 pid_2 false) fun v16 =>
  ob (knil v16) fun v17 =>
  ob (kfa 0 v17) fun v18 =>
  ob (kfa 6 v18) fun v19 =>
  ob (kload h v19) fun v20 =>
  ob (D state_3 [v20] h) fun r21 => kres r21 (fun v22 h23 =>
  kif v22
   ((some (false, (.tuple [v16, (.int .i64 (.ofNat 0))]), h23)))
   ((some (false, (.tuple [AV.nilptr, (.int .i64 (.ofNat 14))]), h23)))) (fun p24 h25 => (some (true, p24, h25))))
theorem F199_ok {S : FS} {D : FD} (hS : SpecsOK Tryz.prog S) (hD : DynOK Tryz.prog D) : SpecOK Tryz.prog 199 (F199 S D) :=
  SpecOK.of (c := match Tryz.f199.body with | some c => c | none => .skip) (by kernel_rfl) hS hD ⟨Tryz.func199, rfl, by decide⟩
    (.seq .n (.seq (.seq .n (.dup (.seq .n .n) .n)) (.seq (.seq .n (.seq .n (.dup (.seq .n .n) .n))) (.seq .n .n)))) 3 (fun args h => by kernel_rfl)
/-- (*roundhouse/procs.Table).Signal$1 -/
noncomputable def F200 (S : FS) (D : FD) (args : List AV) (h : Heap) : Option (Bool × AV × Heap) :=
 kv1 args fun s_1 =>
 ob (kbinI .neq s_1 (.int .i64 (.ofNat 2))) fun v2 =>
 (some (false, v2, h))
theorem F200_ok {S : FS} {D : FD} (hS : SpecsOK Tryz.prog S) (hD : DynOK Tryz.prog D) : SpecOK Tryz.prog 200 (F200 S D) :=
  SpecOK.of (c := match Tryz.f200.body with | some c => c | none => .skip) (by kernel_rfl) hS hD ⟨Tryz.func200, rfl, by decide⟩
    (.seq .n (.seq .n .n)) 1 (fun args h => by kernel_rfl)
/-- (*roundhouse/ctl.job).without -/
noncomputable def F201 (S : FS) (D : FD) (args : List AV) (h : Heap) : Option (Bool × AV × Heap) :=
 kv2 args fun x_1 some_2 =>
 knt some_2 (Heap.pushK h (.cells (AV.cells some_2) true 79) fun h3 =>
 ob (knil x_1) fun v4 =>
 ob (kfa 0 v4) fun v5 =>
 ob (kfa 0 v5) fun v6 =>
 ob (kload h3 v6) fun v7 =>
 ob (S 33 [v7] h3) fun r8 => kres r8 (fun v9 h10 =>
 ob (S 87 [v9, (.func 274 [(.ptr (Heap.next h) 0)])] h10) fun r13 => kres r13 (fun v14 h15 =>
 (some (false, v14, h15))) (fun p16 h17 => (some (true, p16, h17)))) (fun p11 h12 => (some (true, p11, h12))))
theorem F201_ok {S : FS} {D : FD} (hS : SpecsOK Tryz.prog S) (hD : DynOK Tryz.prog D) : SpecOK Tryz.prog 201 (F201 S D) :=
  SpecOK.of (c := match Tryz.f201.body with | some c => c | none => .skip) (by kernel_rfl) hS hD ⟨Tryz.func201, rfl, by decide⟩
    (.seq .n (.seq .n .n)) 2 (fun args h => by kernel_rfl)
end Go.Rh.Tryz
