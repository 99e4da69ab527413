/- Printed by wip/tools/gen.py: functions of the program as plain functions over abstract values, each with its proof. -/
import Derived.Test.YtepgjdoablhgmaaGreatProg
import Derived.Test.YtepgjdoablhgmaaGreatRh3
set_option maxRecDepth 1000000
set_option linter.unusedVariables false
namespace Go.Rh.Tryz
open Go.Proofs
/-- cmp.Compare[int] -/
noncomputable def F27 (S : FS) (D : FD) (args : List AV) (h : Heap) : Option (Bool × AV × Heap) :=
 kv2 args fun x_1 y_2 =>
 ob (S 60 [x_1] h) fun r3 => kres r3 (fun v4 h5 =>
 ob (S 60 [y_2] h5) fun r8 => kres r8 (fun v9 h10 =>
 kif v4
  (kif v9
   ((some (false, (.int .i64 (.ofNat 0)), h10)))
   ((some (false, (.int .i64 (.negSucc 0)), h10))))
  (kif v9
   ((some (false, (.int .i64 (.ofNat 1)), h10)))
   (ob (kbinI .lss x_1 y_2) fun v13 =>
   kif v13
    ((some (false, (.int .i64 (.negSucc 0)), h10)))
    (ob (kbinI .gtr x_1 y_2) fun v14 =>
    kif v14
     ((some (false, (.int .i64 (.ofNat 1)), h10)))
     ((some (false, (.int .i64 (.ofNat 0)), h10))))))) (fun p11 h12 => (some (true, p11, h12)))) (fun p6 h7 => (some (true, p6, h7)))
theorem F27_ok {S : FS} {D : FD} (hS : SpecsOK Tryz.prog S) (hD : DynOK Tryz.prog D) : SpecOK Tryz.prog 27 (F27 S D) :=
  SpecOK.of (c := match Tryz.f27.body with | some c => c | none => .skip) (by kernel_rfl) hS hD ⟨Tryz.func27, rfl, by decide⟩
    (.seq .n (.seq .n (.seq .n (.seq (.seq .n (.dup (.seq (.seq .n (.dup (.seq .n .n) .n)) (.seq .n .n)) .n)) (.seq (.seq .n (.dup (.seq .n .n) .n)) (.seq (.seq .n (.dup (.seq .n .n) .n)) (.seq (.seq .n (.dup (.seq .n .n) .n)) (.seq .n .n)))))))) 2 (fun args h => by kernel_rfl)
/-- (*roundhouse/agent.Agent).Free -/
noncomputable def F28 (S : FS) (D : FD) (args : List AV) (h : Heap) : Option (Bool × AV × Heap) :=
 kv1 args fun a_1 =>
 Heap.pushK h (.cells [(.int .u64 (.ofNat 0)), (.int .u64 (.ofNat 0)), (.int .u64 (.ofNat 0)), (.int .u64 (.ofNat 0))] true 98) fun h2 =>
 ob (S 14 [a_1] h2) fun r3 => kres r3 (fun v4 h5 =>
 kif v4
  (ob (abuild Tryz.prog 98 []) fun v8 =>
  ob (kstore 4 (.ptr (Heap.next h) 0) v8 h5) fun h9 =>
  ob (kloadN 4 h9 (.ptr (Heap.next h) 0)) fun v10 => (some (false, v10, h9)))
  (ob (knil a_1) fun v11 =>
  ob (kfa 15 v11) fun v12 =>
  ob (kload h5 v12) fun v13 =>
  ob (S 61 [v13] h5) fun r14 => kres r14 (fun v15 h16 =>
  ob (kstore 4 (.ptr (Heap.next h) 0) v15 h16) fun h19 =>
  ob (kloadN 4 h19 (.ptr (Heap.next h) 0)) fun v20 => (some (false, v20, h19))) (fun p17 h18 => (some (true, p17, h18))))) (fun p6 h7 => (some (true, p6, h7)))
theorem F28_ok {S : FS} {D : FD} (hS : SpecsOK Tryz.prog S) (hD : DynOK Tryz.prog D) : SpecOK Tryz.prog 28 (F28 S D) :=
  SpecOK.of (c := match Tryz.f28.body with | some c => c | none => .skip) (by kernel_rfl) hS hD ⟨Tryz.func28, rfl, by decide⟩
    (.seq .n (.seq (.seq .n (.dup (.seq .n .n) .n)) (.seq .n .n))) 1 (fun args h => by kernel_rfl)
/-- (roundhouse/mask.Mask).Has -/
noncomputable def F29 (S : FS) (D : FD) (args : List AV) (h : Heap) : Option (Bool × AV × Heap) :=
 kv2 args fun m_1 c_2 =>
 knt m_1 (Heap.pushK h (.cells (AV.cells m_1) true 98) fun h3 =>
 ob (S 62 [c_2] h3) fun r4 => kres r4 (fun v5 h6 =>
 ob (kgv true v5 (some c_2)) fun v9 =>
 ob (kgv true v5 (kbinI .quo v9 (.int .i64 (.ofNat 64)))) fun v10 =>
 ob (kgv true v5 (kiaA 4 1 (.ptr (Heap.next h) 0) v10)) fun v11 =>
 ob (kgv true v5 (kload h6 v11)) fun v12 =>
 ob (kgv true v5 (some c_2)) fun v13 =>
 ob (kgv true v5 (kbinI .rem v13 (.int .i64 (.ofNat 64)))) fun v14 =>
 ob (kgv true v5 (kbinI .shr v12 v14)) fun v15 =>
 ob (kgv true v5 (kbinI .and v15 (.int .u64 (.ofNat 1)))) fun v16 =>
 ob (kgv true v5 (kbinI .eql v16 (.int .u64 (.ofNat 1)))) fun v17 =>
 ob (kpick v5 v17 (.bool false)) fun v18 =>
 (some (false, v18, h6))) (fun p7 h8 => (some (true, p7, h8))))
theorem F29_ok {S : FS} {D : FD} (hS : SpecsOK Tryz.prog S) (hD : DynOK Tryz.prog D) : SpecOK Tryz.prog 29 (F29 S D) :=
  SpecOK.of (c := match Tryz.f29.body with | some c => c | none => .skip) (by kernel_rfl) hS hD ⟨Tryz.func29, rfl, by decide⟩
    (.seq .n (.seq .n .n)) 2 (fun args h => by kernel_rfl)
/-- roundhouse/audit.same -/
noncomputable def F30 (S : FS) (D : FD) (args : List AV) (h : Heap) : Option (Bool × AV × Heap) :=
 kv2 args fun a_1 b_2 =>
 knt a_1 (Heap.pushK h (.cells (AV.cells a_1) true 85) fun h3 =>
 knt b_2 (Heap.pushK h3 (.cells (AV.cells b_2) true 85) fun h4 =>
 ob (kfa 2 (.ptr (Heap.next h) 0)) fun v5 =>
 ob (kload h4 v5) fun v6 =>
 ob (kfa 2 (.ptr (Heap.next h3) 0)) fun v7 =>
 ob (kload h4 v7) fun v8 =>
 ob (kbinO Tryz.prog .eql 4 false v6 v8) fun v9 =>
 ob (kgv true v9 (kfa 0 (.ptr (Heap.next h) 0))) fun v10 =>
 ob (kgv true v9 (kload h4 v10)) fun v11 =>
 ob (kgv true v9 (kfa 0 (.ptr (Heap.next h3) 0))) fun v12 =>
 ob (kgv true v9 (kload h4 v12)) fun v13 =>
 ob (kgc true v9 h4 (S 63 [v11, v13] h4)) fun r14 => kres r14 (fun v15 h16 =>
 ob (kpick v9 v15 (.bool false)) fun v19 =>
 ob (kgv true v19 (kfa 1 (.ptr (Heap.next h) 0))) fun v20 =>
 ob (kgv true v19 (kload h16 v20)) fun v21 =>
 ob (kgv true v19 (kfa 1 (.ptr (Heap.next h3) 0))) fun v22 =>
 ob (kgv true v19 (kload h16 v22)) fun v23 =>
 ob (kgc true v19 h16 (S 64 [v21, v23, (.func 65 [])] h16)) fun r24 => kres r24 (fun v25 h26 =>
 ob (kpick v19 v25 (.bool false)) fun v29 =>
 (some (false, v29, h26))) (fun p27 h28 => (some (true, p27, h28)))) (fun p17 h18 => (some (true, p17, h18)))))
theorem F30_ok {S : FS} {D : FD} (hS : SpecsOK Tryz.prog S) (hD : DynOK Tryz.prog D) : SpecOK Tryz.prog 30 (F30 S D) :=
  SpecOK.of (c := match Tryz.f30.body with | some c => c | none => .skip) (by kernel_rfl) hS hD ⟨Tryz.func30, rfl, by decide⟩
    (.seq .n (.seq .n .n)) 2 (fun args h => by kernel_rfl)
/-- (*roundhouse/agent.Agent).State -/
noncomputable def F31 (S : FS) (D : FD) (args : List AV) (h : Heap) : Option (Bool × AV × Heap) :=
 kv1 args fun a_1 =>
 Heap.pushK h (.cells [AV.nilslice, AV.nilslice, (.bool false)] true 85) fun h2 =>
 ob (kbinO Tryz.prog .eql 34 true a_1 AV.nilptr) fun v3 =>
 kif v3
  (ob (abuild Tryz.prog 85 []) fun v4 =>
  ob (kstore 3 (.ptr (Heap.next h) 0) v4 h2) fun h5 =>
  ob (kloadN 3 h5 (.ptr (Heap.next h) 0)) fun v6 => (some (false, v6, h5)))
  (ob (knil a_1) fun v7 =>
  ob (kfa 12 v7) fun v8 =>
  ob (kfa 0 v8) fun v9 =>
  ob (kload h2 v9) fun v10 =>
  ob (knil a_1) fun v11 =>
  ob (kfa 12 v11) fun v12 =>
  ob (kfa 1 v12) fun v13 =>
  ob (kload h2 v13) fun v14 =>
  ob (knil a_1) fun v15 =>
  ob (kfa 12 v15) fun v16 =>
  ob (kfa 2 v16) fun v17 =>
  ob (kload h2 v17) fun v18 =>
  ob (S 66 [v10] h2) fun r19 => kres r19 (fun v20 h21 =>
  kre (kload h21 v17) v18 (kre (kload h21 v13) v14 (ob (S 67 [v14] h21) fun r24 => kres r24 (fun v25 h26 =>
  kre (kload h26 v17) v18 (ob (abuild Tryz.prog 85 [(0, v20), (1, v25), (2, v18)]) fun v29 =>
  ob (kstore 3 (.ptr (Heap.next h) 0) v29 h26) fun h30 =>
  ob (kloadN 3 h30 (.ptr (Heap.next h) 0)) fun v31 => (some (false, v31, h30)))) (fun p27 h28 => none)))) (fun p22 h23 => none))
theorem F31_ok {S : FS} {D : FD} (hS : SpecsOK Tryz.prog S) (hD : DynOK Tryz.prog D) : SpecOK Tryz.prog 31 (F31 S D) :=
  SpecOK.of (c := match Tryz.f31.body with | some c => c | none => .skip) (by kernel_rfl) hS hD ⟨Tryz.func31, rfl, by decide⟩
    (.seq .n (.seq (.seq .n (.dup (.seq .n .n) .n)) (.seq .n .n))) 1 (fun args h => by kernel_rfl)
/-- roundhouse/audit.said -/
noncomputable def F32 (S : FS) (D : FD) (args : List AV) (h : Heap) : Option (Bool × AV × Heap) :=
 kv1 args fun log_1 =>
 Heap.pushK h (.cells [AV.nilslice, AV.nilslice, (.bool false)] true 85) fun h2 =>
 ob (S 68 [log_1] h2) fun r3 => kres r3 (fun v4 h5 =>
 ob (aextract v4 0) fun v8 =>
 ob (aextract v4 1) fun v9 =>
 ob (klenL v8) fun v10 =>
 ob (iterD (fun vs11 ds12 h13 => kv5 vs11 fun v14 l_15 v16 v17 v18 =>
  ob (kbinI .lss v18 v17) fun v19 =>
  kif v19
   (ob (kia 2 v16 v18) fun v20 =>
   ob (kloadN 2 h13 v20) fun v21 =>
   Heap.pushK h13 (.cells [(.int .i64 (.ofNat 0)), (.str 0 0)] true 165) fun h22 =>
   ob (kstore 2 (.ptr (Heap.next h13) 0) v21 h22) fun h23 =>
   ob (kfa 1 (.ptr (Heap.next h13) 0)) fun v24 =>
   ob (kload h23 v24) fun v25 =>
   ob (S 69 [v25] h23) fun r26 => kres r26 (fun v27 h28 =>
   ob (aextract v27 0) fun v31 =>
   ob (aextract v27 1) fun v32 =>
   Heap.pushK h28 (.cells [(.int .i64 (.ofNat 0)), (.int .i64 (.ofNat 0)), (.int .i64 (.ofNat 0)), (.int .i64 (.ofNat 0)), (.int .i64 (.ofNat 0)), AV.nilslice] true 167) fun h33 =>
   ob (kstore 6 (.ptr (Heap.next h28) 0) v31 h33) fun h34 =>
   ob (kloadN 6 h34 (.ptr (Heap.next h28) 0)) fun v35 =>
   ob (abuildSlice Tryz.prog 163 1 [(0, v35)]) fun r36 => Heap.pushK h34 (.cells r36.1 true r36.2.2) fun h37 =>
   ob (aappend Tryz.prog h37 163 163 l_15 (.slice (Heap.next h34) 0 1 1 r36.2.1)) fun r38 =>
   ob (kbinI .add v18 (.int .i64 (.ofNat 1))) fun v39 =>
   (some ⟨0, [v14, r38.1, v16, v17, v39], ds12, r38.2⟩)) (fun p29 h30 => (some ⟨2, [p29], ds12, h30⟩)))
   ((some ⟨1, [v14, l_15], ds12, h13⟩))) rounds [(.ptr (Heap.next h) 0), AV.nilslice, v8, v10, (.int .i64 (.ofNat 0))] [] h5) fun r40 => kcase (J.i r40) [kv2 (J.vs r40) fun v41 l_42 =>
  ob (S 70 [l_42] (J.h r40)) fun r43 => kres r43 (fun v44 h45 =>
  ob (aextract v44 0) fun v48 =>
  ob (aextract v44 1) fun v49 =>
  Heap.pushK h45 (.cells [AV.nilslice, AV.nilslice, (.bool false)] true 85) fun h50 =>
  ob (kstore 3 (.ptr (Heap.next h45) 0) v48 h50) fun h51 =>
  ob (kloadN 3 h51 (.ptr (Heap.next h45) 0)) fun v52 =>
  ob (kstore 3 v41 v52 h51) fun h53 =>
  (dleave (fun h54 => ob (kloadN 3 h54 v41) fun v55 => (some (false, v55, h54))) (J.ds r40) h53)) (fun p46 h47 => (kds (J.ds r40) (some (true, p46, h47)))),
 kv1 (J.vs r40) fun p56 => (kds (J.ds r40) (some (true, p56, (J.h r40))))]) (fun p6 h7 => (some (true, p6, h7)))
theorem F32_ok {S : FS} {D : FD} (hS : SpecsOK Tryz.prog S) (hD : DynOK Tryz.prog D) : SpecOK Tryz.prog 32 (F32 S D) :=
  SpecOK.of (c := match Tryz.f32.body with | some c => c | none => .skip) (by kernel_rfl) hS hD ⟨Tryz.func32, rfl, by decide⟩
    (.seq .n (.seq .n (.seq .n (.seq (.seq .n (.one (.loop [2, 5, 17, 18, 19] [(.exit 0, [2, 5]), (.pan, [])] (.seq .n (.seq (.dup .n .n) (.seq (.one (.seq .n (.seq .n .n))) .n)))))) (.seq .n (.seq .n .n)))))) 1 (fun args h => by kernel_rfl)
/-- (*roundhouse/agent.Agent).Log -/
noncomputable def F33 (S : FS) (D : FD) (args : List AV) (h : Heap) : Option (Bool × AV × Heap) :=
 kv1 args fun a_1 =>
 ob (kbinO Tryz.prog .eql 34 true a_1 AV.nilptr) fun v2 =>
 kif v2
  ((some (false, (.str 0 0), h)))
  (ob (knil a_1) fun v3 =>
  ob (kfa 0 v3) fun v4 =>
  ob (kfa 0 v4) fun v5 =>
  ob (kload h v5) fun v6 =>
  (some (false, v6, h)))
theorem F33_ok {S : FS} {D : FD} (hS : SpecsOK Tryz.prog S) (hD : DynOK Tryz.prog D) : SpecOK Tryz.prog 33 (F33 S D) :=
  SpecOK.of (c := match Tryz.f33.body with | some c => c | none => .skip) (by kernel_rfl) hS hD ⟨Tryz.func33, rfl, by decide⟩
    (.seq .n (.seq (.seq .n (.dup (.seq .n .n) .n)) (.seq .n .n))) 1 (fun args h => by kernel_rfl)
/-- slices.Equal[[]int,int] -/
noncomputable def F34 (S : FS) (D : FD) (args : List AV) (h : Heap) : Option (Bool × AV × Heap) :=
 kv2 args fun s1_1 s2_2 =>
 ob (klenL s1_1) fun v3 =>
 ob (klenL s2_2) fun v4 =>
 ob (kbinI .neq v3 v4) fun v5 =>
 kif v5
  ((some (false, (.bool false), h)))
  (ob (klenL s1_1) fun v6 =>
  ob (iterD (fun vs7 ds8 h9 => kv4 vs7 fun s1_10 s2_11 v12 v13 =>
   ob (kbinI .lss v13 v12) fun v14 =>
   kif v14
    (ob (kia 1 s1_10 v13) fun v15 =>
    ob (kload h9 v15) fun v16 =>
    ob (kia 1 s2_11 v13) fun v17 =>
    ob (kload h9 v17) fun v18 =>
    ob (kbinI .neq v16 v18) fun v19 =>
    kif v19
     ((some ⟨2, [(.bool false)], ds8, h9⟩))
     (ob (kbinI .add v13 (.int .i64 (.ofNat 1))) fun v20 =>
     (some ⟨0, [s1_10, s2_11, v12, v20], ds8, h9⟩)))
    ((some ⟨1, [], ds8, h9⟩))) rounds [s1_1, s2_2, v6, (.int .i64 (.ofNat 0))] [] h) fun r21 => kcase (J.i r21) [kv0 (J.vs r21) ((dleave (fun h22 => (some (false, (.bool true), h22))) (J.ds r21) (J.h r21))),
  kv1 (J.vs r21) fun v23 =>
   (dleave (fun h24 => (some (false, v23, h24))) (J.ds r21) (J.h r21))])
theorem F34_ok {S : FS} {D : FD} (hS : SpecsOK Tryz.prog S) (hD : DynOK Tryz.prog D) : SpecOK Tryz.prog 34 (F34 S D) :=
  SpecOK.of (c := match Tryz.f34.body with | some c => c | none => .skip) (by kernel_rfl) hS hD ⟨Tryz.func34, rfl, by decide⟩
    (.seq .n (.seq (.seq .n (.dup (.seq .n .n) .n)) (.seq (.seq .n (.one (.loop [0, 1, 12, 13] [(.exit 0, []), (.ret, [4])] (.seq .n (.seq (.dup .n .n) (.seq (.one (.seq .n (.seq .n (.dup (.seq .n .n) .n)))) .n)))))) (.seq .n .n)))) 2 (fun args h => by kernel_rfl)
/-- roundhouse/audit.living -/
noncomputable def F35 (S : FS) (D : FD) (args : List AV) (h : Heap) : Option (Bool × AV × Heap) :=
 kv1 args fun s_1 =>
 knt s_1 (Heap.pushK h (.cells (AV.cells s_1) true 85) fun h2 =>
 ob (kfa 1 (.ptr (Heap.next h) 0)) fun v3 =>
 ob (kload h2 v3) fun v4 =>
 ob (klenL v4) fun v5 =>
 ob (iterD (fun vs6 ds7 h8 => kv4 vs6 fun l_9 v10 v11 v12 =>
  ob (kbinI .lss v12 v11) fun v13 =>
  kif v13
   (ob (kia 6 v10 v12) fun v14 =>
   ob (kloadN 6 h8 v14) fun v15 =>
   Heap.pushK h8 (.cells [(.int .i64 (.ofNat 0)), (.int .i64 (.ofNat 0)), (.int .i64 (.ofNat 0)), (.int .i64 (.ofNat 0)), (.int .i64 (.ofNat 0)), AV.nilslice] true 156) fun h16 =>
   ob (kstore 6 (.ptr (Heap.next h8) 0) v15 h16) fun h17 =>
   ob (kfa 3 (.ptr (Heap.next h8) 0)) fun v18 =>
   ob (kload h17 v18) fun v19 =>
   ob (kbinI .eql v19 (.int .i64 (.ofNat 0))) fun v20 =>
   ob (kgv false v20 (kfa 3 (.ptr (Heap.next h8) 0))) fun v21 =>
   ob (kgv false v20 (kload h17 v21)) fun v22 =>
   ob (kgv false v20 (kbinI .eql v22 (.int .i64 (.ofNat 1)))) fun v23 =>
   ob (kpick v20 (.bool true) v23) fun v24 =>
   ob (kif v24
    (ob (kfa 5 (.ptr (Heap.next h8) 0)) fun v26 =>
    ob (kload h17 v26) fun v27 =>
    ob (aappend Tryz.prog h17 37 37 l_9 v27) fun r28 =>
    (some ⟨0, [r28.1, v10, v11, v12], ds7, r28.2⟩))
    ((some ⟨0, [l_9, v10, v11, v12], ds7, h17⟩))) fun r25 => kcase (J.i r25) [kv4 (J.vs r25) fun l_29 v30 v31 v32 =>
    ob (kbinI .add v32 (.int .i64 (.ofNat 1))) fun v33 =>
    (some ⟨0, [l_29, v30, v31, v33], (J.ds r25), (J.h r25)⟩)])
   ((some ⟨1, [l_9], ds7, h8⟩))) rounds [AV.nilslice, v4, v5, (.int .i64 (.ofNat 0))] [] h2) fun r34 => kcase (J.i r34) [kv1 (J.vs r34) fun l_35 =>
  ob (S 71 [l_35] (J.h r34)) fun r36 => kres r36 (fun v37 h38 =>
  (dleave (fun h41 => (some (false, l_35, h41))) (J.ds r34) h38)) (fun p39 h40 => (kds (J.ds r34) (some (true, p39, h40))))])
theorem F35_ok {S : FS} {D : FD} (hS : SpecsOK Tryz.prog S) (hD : DynOK Tryz.prog D) : SpecOK Tryz.prog 35 (F35 S D) :=
  SpecOK.of (c := match Tryz.f35.body with | some c => c | none => .skip) (by kernel_rfl) hS hD ⟨Tryz.func35, rfl, by decide⟩
    (.seq .n (.seq .n (.seq (.seq .n (.one (.loop [3, 7, 8, 9] [(.exit 0, [3])] (.seq .n (.seq (.dup .n .n) (.seq (.one (.seq .n (.seq .n (.join [(.norm, [3, 7, 8, 9])] (.dup .n .n))))) .n)))))) (.seq .n (.seq .n .n))))) 1 (fun args h => by kernel_rfl)
/-- roundhouse/trace.Check -/
noncomputable def F36 (S : FS) (D : FD) (args : List AV) (h : Heap) : Option (Bool × AV × Heap) :=
 kv2 args fun jobs_1 l_2 =>
 ob (klenL l_2) fun v3 =>
 ob (iterD (fun vs4 ds5 h6 => kv5 vs4 fun jobs_7 l_8 v9 v10 v11 =>
  ob (kbinI .lss v11 v10) fun v12 =>
  kif v12
   (ob (kia 6 v9 v11) fun v13 =>
   ob (kloadN 6 h6 v13) fun v14 =>
   Heap.pushK h6 (.cells [(.int .i64 (.ofNat 0)), (.int .i64 (.ofNat 0)), (.int .i64 (.ofNat 0)), (.int .i64 (.ofNat 0)), (.int .i64 (.ofNat 0)), (.int .i64 (.ofNat 0))] true 174) fun h15 =>
   ob (kstore 6 (.ptr (Heap.next h6) 0) v14 h15) fun h16 =>
   ob (kloadN 6 h16 (.ptr (Heap.next h6) 0)) fun v17 =>
   ob (S 72 [jobs_7, v17] h16) fun r18 => kres r18 (fun v19 h20 =>
   ob (aun .not v19) fun v23 =>
   kif v23
    ((some ⟨2, [v11, (.int .i64 (.ofNat 5))], ds5, h20⟩))
    (ob (aslice Tryz.prog 72 l_8 none (some v11) none) fun v24 =>
    ob (kfa 2 (.ptr (Heap.next h6) 0)) fun v25 =>
    ob (kload h20 v25) fun v26 =>
    ob (kbinI .sub v26 (.int .i64 (.ofNat 1))) fun v27 =>
    ob (kia 2 jobs_7 v27) fun v28 =>
    ob (kloadN 2 h20 v28) fun v29 =>
    ob (kloadN 6 h20 (.ptr (Heap.next h6) 0)) fun v30 =>
    ob (S 73 [v24, v29, v30] h20) fun r31 => kres r31 (fun v32 h33 =>
    ob (aun .not v32) fun v36 =>
    kif v36
     ((some ⟨2, [v11, (.int .i64 (.ofNat 14))], ds5, h33⟩))
     (ob (kbinI .add v11 (.int .i64 (.ofNat 1))) fun v37 =>
     (some ⟨0, [jobs_7, l_8, v9, v10, v37], ds5, h33⟩))) (fun p34 h35 => (some ⟨3, [p34], ds5, h35⟩)))) (fun p21 h22 => (some ⟨3, [p21], ds5, h22⟩)))
   ((some ⟨1, [l_8], ds5, h6⟩))) rounds [jobs_1, l_2, l_2, v3, (.int .i64 (.ofNat 0))] [] h) fun r38 => kcase (J.i r38) [kv1 (J.vs r38) fun l_39 =>
  ob (klenL l_39) fun v40 =>
  (dleave (fun h41 => (some (false, (.tuple [v40, (.int .i64 (.ofNat 0))]), h41))) (J.ds r38) (J.h r38)),
 kv2 (J.vs r38) fun v42 v43 =>
  (dleave (fun h44 => (some (false, (.tuple [v42, v43]), h44))) (J.ds r38) (J.h r38)),
 kv1 (J.vs r38) fun p45 => (kds (J.ds r38) (some (true, p45, (J.h r38))))]
theorem F36_ok {S : FS} {D : FD} (hS : SpecsOK Tryz.prog S) (hD : DynOK Tryz.prog D) : SpecOK Tryz.prog 36 (F36 S D) :=
  SpecOK.of (c := match Tryz.f36.body with | some c => c | none => .skip) (by kernel_rfl) hS hD ⟨Tryz.func36, rfl, by decide⟩
    (.seq .n (.seq (.seq .n (.one (.loop [0, 1, 8, 9, 10] [(.exit 0, [1]), (.ret, [4, 5]), (.pan, [])] (.seq .n (.seq (.dup .n .n) (.seq (.one (.seq .n (.seq (.seq .n (.dup (.seq .n .n) .n)) (.seq .n (.dup (.seq .n .n) .n))))) .n)))))) (.seq .n .n))) 2 (fun args h => by kernel_rfl)
/-- (*roundhouse/world.World).Given -/
noncomputable def F37 (S : FS) (D : FD) (args : List AV) (h : Heap) : Option (Bool × AV × Heap) :=
 kv1 args fun w_1 =>
 ob (kbinO Tryz.prog .eql 32 true w_1 AV.nilptr) fun v2 =>
 kif v2
  ((some (false, AV.nilslice, h)))
  (ob (knil w_1) fun v3 =>
  ob (kfa 4 v3) fun v4 =>
  ob (kload h v4) fun v5 =>
  ob (S 74 [v5] h) fun r6 => kres r6 (fun v7 h8 =>
  (some (false, v7, h8))) (fun p9 h10 => (some (true, p9, h10))))
theorem F37_ok {S : FS} {D : FD} (hS : SpecsOK Tryz.prog S) (hD : DynOK Tryz.prog D) : SpecOK Tryz.prog 37 (F37 S D) :=
  SpecOK.of (c := match Tryz.f37.body with | some c => c | none => .skip) (by kernel_rfl) hS hD ⟨Tryz.func37, rfl, by decide⟩
    (.seq .n (.seq (.seq .n (.dup (.seq .n .n) .n)) (.seq .n .n))) 1 (fun args h => by kernel_rfl)
/-- (*roundhouse/world.World).Events -/
noncomputable def F38 (S : FS) (D : FD) (args : List AV) (h : Heap) : Option (Bool × AV × Heap) :=
 kv1 args fun w_1 =>
 ob (kbinO Tryz.prog .eql 32 true w_1 AV.nilptr) fun v2 =>
 kif v2
  ((some (false, AV.nilslice, h)))
  (ob (knil w_1) fun v3 =>
  ob (kfa 5 v3) fun v4 =>
  ob (kload h v4) fun v5 =>
  ob (S 75 [v5] h) fun r6 => kres r6 (fun v7 h8 =>
  (some (false, v7, h8))) (fun p9 h10 => (some (true, p9, h10))))
theorem F38_ok {S : FS} {D : FD} (hS : SpecsOK Tryz.prog S) (hD : DynOK Tryz.prog D) : SpecOK Tryz.prog 38 (F38 S D) :=
  SpecOK.of (c := match Tryz.f38.body with | some c => c | none => .skip) (by kernel_rfl) hS hD ⟨Tryz.func38, rfl, by decide⟩
    (.seq .n (.seq (.seq .n (.dup (.seq .n .n) .n)) (.seq .n .n))) 1 (fun args h => by kernel_rfl)
/-- (*roundhouse/ctl.Ctl).find -/
noncomputable def F39 (S : FS) (D : FD) (args : List AV) (h : Heap) : Option (Bool × AV × Heap) :=
 kv2 args fun c_1 id_2 =>
 ob (kbinO Tryz.prog .eql 48 true c_1 AV.nilptr) fun v3 =>
 ob (kgv false v3 (some id_2)) fun v4 =>
 ob (kgv false v3 (kbinI .lss v4 (.int .i64 (.ofNat 1)))) fun v5 =>
 ob (kpick v3 (.bool true) v5) fun v6 =>
 ob (kgv false v6 (some id_2)) fun v7 =>
 ob (kgv false v6 (some c_1)) fun v8 =>
 ob (kgv false v6 (knil v8)) fun v9 =>
 ob (kgv false v6 (kfa 1 v9)) fun v10 =>
 ob (kgv false v6 (kload h v10)) fun v11 =>
 ob (kgv false v6 (klenL v11)) fun v12 =>
 ob (kgv false v6 (kbinI .gtr v7 v12)) fun v13 =>
 ob (kpick v6 (.bool true) v13) fun v14 =>
 kif v14
  ((some (false, AV.nilptr, h)))
  (ob (knil c_1) fun v15 =>
  ob (kfa 1 v15) fun v16 =>
  ob (kload h v16) fun v17 =>
  ob (kbinI .sub id_2 (.int .i64 (.ofNat 1))) fun v18 =>
  ob (kia 1 v17 v18) fun v19 =>
  ob (kload h v19) fun v20 =>
  (some (false, v20, h)))
theorem F39_ok {S : FS} {D : FD} (hS : SpecsOK Tryz.prog S) (hD : DynOK Tryz.prog D) : SpecOK Tryz.prog 39 (F39 S D) :=
  SpecOK.of (c := match Tryz.f39.body with | some c => c | none => .skip) (by kernel_rfl) hS hD ⟨Tryz.func39, rfl, by decide⟩
    (.seq .n (.seq (.seq .n (.dup (.seq .n .n) .n)) (.seq .n .n))) 2 (fun args h => by kernel_rfl)
/-- slices.Clone[[]int,int] -/
noncomputable def F40 (S : FS) (D : FD) (args : List AV) (h : Heap) : Option (Bool × AV × Heap) :=
 kv1 args fun s_1 =>
 ob (kbinO Tryz.prog .eql 37 true s_1 AV.nilslice) fun v2 =>
 kif v2
  ((some (false, AV.nilslice, h)))
  (ob (abuildSlice Tryz.prog 37 0 []) fun r3 => Heap.pushK h (.cells r3.1 true r3.2.2) fun h4 =>
  ob (aappend Tryz.prog h4 37 37 (.slice (Heap.next h) 0 0 0 r3.2.1) s_1) fun r5 =>
  (some (false, r5.1, r5.2)))
theorem F40_ok {S : FS} {D : FD} (hS : SpecsOK Tryz.prog S) (hD : DynOK Tryz.prog D) : SpecOK Tryz.prog 40 (F40 S D) :=
  SpecOK.of (c := match Tryz.f40.body with | some c => c | none => .skip) (by kernel_rfl) hS hD ⟨Tryz.func40, rfl, by decide⟩
    (.seq .n (.seq (.seq .n (.dup (.seq .n .n) .n)) (.seq .n .n))) 1 (fun args h => by kernel_rfl)
/-- (*roundhouse/tally.Tally).State -/
noncomputable def F41 (S : FS) (D : FD) (args : List AV) (h : Heap) : Option (Bool × AV × Heap) :=
 kv1 args fun t_1 =>
 ob (kbinO Tryz.prog .eql 119 true t_1 AV.nilptr) fun v2 =>
 kif v2
  ((some (false, (.int .i64 (.ofNat 0)), h)))
  (ob (knil t_1) fun v3 =>
  ob (kfa 1 v3) fun v4 =>
  ob (kload h v4) fun v5 =>
  ob (arangeM Tryz.prog h 180 v5) fun r6 =>
  ob (iterD (fun vs7 ds8 h9 => kv2 vs7 fun t_10 v11 =>
   ob (anext h9 v11 false) fun r12 =>
   ob (aextract r12.1 0) fun v13 =>
   kif v13
    (ob (aentry r12.2 v11) fun v14 =>
    ob (aextract v14 1) fun v15 =>
    ob (kbinO Tryz.prog .neq 184 true v15 AV.nilptr) fun v16 =>
    ob (kgv true v16 (some v15)) fun v17 =>
    ob (kgv true v16 (knil v17)) fun v18 =>
    ob (kgv true v16 (kload r12.2 v18)) fun v19 =>
    ob (kgv true v16 (aun .not v19)) fun v20 =>
    ob (kpick v16 v20 (.bool false)) fun v21 =>
    kif v21
     ((some ⟨2, [(.int .i64 (.ofNat 2))], ds8, r12.2⟩))
     ((some ⟨0, [t_10, v11], ds8, r12.2⟩)))
    ((some ⟨1, [t_10], ds8, r12.2⟩))) rounds [t_1, r6.1] [] r6.2) fun r22 => kcase (J.i r22) [kv1 (J.vs r22) fun t_23 =>
   ob (knil t_23) fun v24 =>
   ob (kfa 0 v24) fun v25 =>
   ob (kload (J.h r22) v25) fun v26 =>
   ob (knil t_23) fun v27 =>
   ob (kfa 1 v27) fun v28 =>
   ob (kload (J.h r22) v28) fun v29 =>
   ob (S 76 [v26, v29] (J.h r22)) fun r30 => kres r30 (fun v31 h32 =>
   ob (klenL v31) fun v35 =>
   ob (kbinI .gtr v35 (.int .i64 (.ofNat 0))) fun v36 =>
   kif v36
    ((dleave (fun h37 => (some (false, (.int .i64 (.ofNat 0)), h37))) (J.ds r22) h32))
    (ob (knil t_23) fun v38 =>
    ob (kfa 0 v38) fun v39 =>
    ob (kload h32 v39) fun v40 =>
    ob (knil t_23) fun v41 =>
    ob (kfa 2 v41) fun v42 =>
    ob (kload h32 v42) fun v43 =>
    ob (S 77 [v40, v43] h32) fun r44 => kres r44 (fun v45 h46 =>
    ob (klenL v45) fun v49 =>
    ob (kbinI .gtr v49 (.int .i64 (.ofNat 0))) fun v50 =>
    kif v50
     ((dleave (fun h51 => (some (false, (.int .i64 (.ofNat 1)), h51))) (J.ds r22) h46))
     ((dleave (fun h52 => (some (false, (.int .i64 (.ofNat 3)), h52))) (J.ds r22) h46))) (fun p47 h48 => (kds (J.ds r22) (some (true, p47, h48)))))) (fun p33 h34 => (kds (J.ds r22) (some (true, p33, h34)))),
  kv1 (J.vs r22) fun v53 =>
   (dleave (fun h54 => (some (false, v53, h54))) (J.ds r22) (J.h r22))])
theorem F41_ok {S : FS} {D : FD} (hS : SpecsOK Tryz.prog S) (hD : DynOK Tryz.prog D) : SpecOK Tryz.prog 41 (F41 S D) :=
  SpecOK.of (c := match Tryz.f41.body with | some c => c | none => .skip) (by kernel_rfl) hS hD ⟨Tryz.func41, rfl, by decide⟩
    (.seq .n (.seq (.seq .n (.dup (.seq .n .n) .n)) (.seq (.seq .n (.one (.loop [0, 11] [(.exit 0, [0]), (.ret, [2])] (.seq .n (.seq (.dup .n .n) (.one (.seq .n (.seq .n (.dup (.seq .n .n) .n))))))))) (.seq (.one (.seq .n (.dup (.seq .n .n) (.seq .n (.dup (.seq .n .n) .n))))) (.seq .n .n))))) 1 (fun args h => by kernel_rfl)
/-- roundhouse/ctl.New -/
noncomputable def F42 (S : FS) (D : FD) (args : List AV) (h : Heap) : Option (Bool × AV × Heap) :=
 kv1 args fun key_1 =>
 ob (abuild Tryz.prog 112 [(0, key_1)]) fun v2 =>
 knt v2 (Heap.pushK h (.cells (AV.cells v2) true 112) fun h3 =>
 (some (false, (.ptr (Heap.next h) 0), h3)))
theorem F42_ok {S : FS} {D : FD} (hS : SpecsOK Tryz.prog S) (hD : DynOK Tryz.prog D) : SpecOK Tryz.prog 42 (F42 S D) :=
  SpecOK.of (c := match Tryz.f42.body with | some c => c | none => .skip) (by kernel_rfl) hS hD ⟨Tryz.func42, rfl, by decide⟩
    (.seq .n (.seq .n .n)) 1 (fun args h => by kernel_rfl)
/-- roundhouse/net.New -/
noncomputable def F43 (S : FS) (D : FD) (args : List AV) (h : Heap) : Option (Bool × AV × Heap) :=
 kv1 args fun n_1 =>
 ob (kbinI .lss n_1 (.int .i64 (.ofNat 1))) fun v2 =>
 ob (kgv false v2 (some n_1)) fun v3 =>
 ob (kgv false v2 (kbinI .gtr v3 (.int .i64 (.ofNat 1000)))) fun v4 =>
 ob (kpick v2 (.bool true) v4) fun v5 =>
 kif v5
  ((some (false, AV.nilptr, h)))
  (ob (abuild Tryz.prog 189 [(0, n_1)]) fun v6 =>
  knt v6 (Heap.pushK h (.cells (AV.cells v6) true 189) fun h7 =>
  (some (false, (.ptr (Heap.next h) 0), h7))))
theorem F43_ok {S : FS} {D : FD} (hS : SpecsOK Tryz.prog S) (hD : DynOK Tryz.prog D) : SpecOK Tryz.prog 43 (F43 S D) :=
  SpecOK.of (c := match Tryz.f43.body with | some c => c | none => .skip) (by kernel_rfl) hS hD ⟨Tryz.func43, rfl, by decide⟩
    (.seq .n (.seq (.seq .n (.dup (.seq .n .n) .n)) (.seq .n .n))) 1 (fun args h => by kernel_rfl)
/-- roundhouse/agent.New -/
noncomputable def F44 (S : FS) (D : FD) (args : List AV) (h : Heap) : Option (Bool × AV × Heap) :=
 kv1 args fun c_1 =>
 knt c_1 (Heap.pushK h (.cells (AV.cells c_1) true 81) fun h2 =>
 ob (kfa 0 (.ptr (Heap.next h) 0)) fun v3 =>
 ob (kload h2 v3) fun v4 =>
 ob (S 78 [v4, (.int .i64 (.ofNat 0)), (.int .i64 (.ofNat 15))] h2) fun r5 => kres r5 (fun v6 h7 =>
 ob (aun .not v6) fun v10 =>
 ob (kgv false v10 (kfa 1 (.ptr (Heap.next h) 0))) fun v11 =>
 ob (kgv false v10 (kloadN 2 h7 v11)) fun v12 =>
 ob (kgc false v10 h7 (S 79 [v12] h7)) fun r13 => kres r13 (fun v14 h15 =>
 ob (kgv false v10 (kbinI .neq v14 (.int .i64 (.ofNat 0)))) fun v18 =>
 ob (kpick v10 (.bool true) v18) fun v19 =>
 ob (kgv false v19 (kfa 4 (.ptr (Heap.next h) 0))) fun v20 =>
 ob (kgv false v19 (kload h15 v20)) fun v21 =>
 ob (kgc false v19 h15 (S 78 [v21, (.int .i64 (.ofNat 1)), (.int .i64 (.ofNat 1073741824))] h15)) fun r22 => kres r22 (fun v23 h24 =>
 ob (kgv false v19 (aun .not v23)) fun v27 =>
 ob (kpick v19 (.bool true) v27) fun v28 =>
 ob (kgv false v28 (kfa 5 (.ptr (Heap.next h) 0))) fun v29 =>
 ob (kgv false v28 (kload h24 v29)) fun v30 =>
 ob (kgc false v28 h24 (S 78 [v30, (.int .i64 (.ofNat 0)), (.int .i64 (.ofNat 1073741824))] h24)) fun r31 => kres r31 (fun v32 h33 =>
 ob (kgv false v28 (aun .not v32)) fun v36 =>
 ob (kpick v28 (.bool true) v36) fun v37 =>
 kif v37
  ((some (false, AV.nilptr, h33)))
  (ob (kloadN 6 h33 (.ptr (Heap.next h) 0)) fun v38 =>
  kfree h33 (Heap.pushK h33 (.map [] [] 0) fun h39 =>
  ob (S 80 [] h39) fun r40 => kres r40 (fun v41 h42 =>
  kro (Heap.next h33) h39 h42 (kre (kloadN 6 h42 (.ptr (Heap.next h) 0)) v38 (ob (S 81 [] h42) fun r45 => kres r45 (fun v46 h47 =>
  kro (Heap.next h33) h39 h47 (kre (kloadN 6 h47 (.ptr (Heap.next h) 0)) v38 (ob (abuild Tryz.prog 79 [(1, v41), (2, v46), (3, (.map (Heap.next h33)))]) fun v50 =>
  ob (abuild Tryz.prog 90 [(1, v38), (0, v50)]) fun v51 =>
  kfree h47 (knt v51 (Heap.pushK h47 (.cells (AV.cells v51) true 90) fun h52 =>
  ob (S 82 [(.ptr (Heap.next h47) 0)] h52) fun r53 => kres r53 (fun v54 h55 =>
  (some (false, (.ptr (Heap.next h47) 0), h55))) (fun p56 h57 => (some (true, p56, h57)))))))) (fun p48 h49 => none)))) (fun p43 h44 => none)))) (fun p34 h35 => (some (true, p34, h35)))) (fun p25 h26 => (some (true, p25, h26)))) (fun p16 h17 => (some (true, p16, h17)))) (fun p8 h9 => (some (true, p8, h9))))
theorem F44_ok {S : FS} {D : FD} (hS : SpecsOK Tryz.prog S) (hD : DynOK Tryz.prog D) : SpecOK Tryz.prog 44 (F44 S D) :=
  SpecOK.of (c := match Tryz.f44.body with | some c => c | none => .skip) (by kernel_rfl) hS hD ⟨Tryz.func44, rfl, by decide⟩
    (.seq .n (.seq (.seq .n (.dup (.seq .n .n) .n)) (.seq .n (.seq .n (.seq .n .n))))) 1 (fun args h => by kernel_rfl)
/-- roundhouse/world.ops -/
noncomputable def F45 (S : FS) (D : FD) (args : List AV) (h : Heap) : Option (Bool × AV × Heap) :=
 kv0 args (Heap.pushK h (.map [] [] 0) fun h1 =>
 ob (amapSet Tryz.prog h1 125 (.map (Heap.next h)) (.int .i64 (.ofNat 0)) (.func 83 [])) fun h2 =>
 ob (amapSet Tryz.prog h2 125 (.map (Heap.next h)) (.int .i64 (.ofNat 1)) (.func 84 [])) fun h3 =>
 ob (amapSet Tryz.prog h3 125 (.map (Heap.next h)) (.int .i64 (.ofNat 2)) (.func 85 [])) fun h4 =>
 ob (amapSet Tryz.prog h4 125 (.map (Heap.next h)) (.int .i64 (.ofNat 3)) (.func 86 [])) fun h5 =>
 ob (amapSet Tryz.prog h5 125 (.map (Heap.next h)) (.int .i64 (.ofNat 4)) (.func 87 [])) fun h6 =>
 ob (amapSet Tryz.prog h6 125 (.map (Heap.next h)) (.int .i64 (.ofNat 5)) (.func 88 [])) fun h7 =>
 ob (amapSet Tryz.prog h7 125 (.map (Heap.next h)) (.int .i64 (.ofNat 6)) (.func 89 [])) fun h8 =>
 ob (amapSet Tryz.prog h8 125 (.map (Heap.next h)) (.int .i64 (.ofNat 7)) (.func 90 [])) fun h9 =>
 ob (amapSet Tryz.prog h9 125 (.map (Heap.next h)) (.int .i64 (.ofNat 8)) (.func 91 [])) fun h10 =>
 ob (amapSet Tryz.prog h10 125 (.map (Heap.next h)) (.int .i64 (.ofNat 9)) (.func 92 [])) fun h11 =>
 ob (amapSet Tryz.prog h11 125 (.map (Heap.next h)) (.int .i64 (.ofNat 10)) (.func 93 [])) fun h12 =>
 ob (amapSet Tryz.prog h12 125 (.map (Heap.next h)) (.int .i64 (.ofNat 11)) (.func 94 [])) fun h13 =>
 (some (false, (.map (Heap.next h)), h13)))
theorem F45_ok {S : FS} {D : FD} (hS : SpecsOK Tryz.prog S) (hD : DynOK Tryz.prog D) : SpecOK Tryz.prog 45 (F45 S D) :=
  SpecOK.of (c := match Tryz.f45.body with | some c => c | none => .skip) (by kernel_rfl) hS hD ⟨Tryz.func45, rfl, by decide⟩
    (.seq .n (.seq .n .n)) 0 (fun args h => by kernel_rfl)
/-- (*roundhouse/world.World).jobs -/
noncomputable def F46 (S : FS) (D : FD) (args : List AV) (h : Heap) : Option (Bool × AV × Heap) :=
 kv1 args fun w_1 =>
 ob (knil w_1) fun v2 =>
 ob (kfa 1 v2) fun v3 =>
 ob (kload h v3) fun v4 =>
 ob (S 19 [v4] h) fun r5 => kres r5 (fun v6 h7 =>
 ob (iterD (fun vs10 ds11 h12 => kv4 vs10 fun w_13 l_14 v15 v16 =>
  ob (kbinI .lss v16 v15) fun v17 =>
  kif v17
   (ob (knil w_13) fun v18 =>
   ob (kfa 1 v18) fun v19 =>
   ob (kload h12 v19) fun v20 =>
   ob (kbinI .add v16 (.int .i64 (.ofNat 1))) fun v21 =>
   ob (S 20 [v20, v21] h12) fun r22 => kres r22 (fun v23 h24 =>
   ob (aextract v23 0) fun v27 =>
   ob (aextract v23 1) fun v28 =>
   Heap.pushK h24 (.cells [(.int .i64 (.ofNat 0)), (.int .i64 (.ofNat 0)), (.int .i64 (.ofNat 0)), (.int .i64 (.ofNat 0)), (.int .i64 (.ofNat 0)), AV.nilslice, AV.nilslice] true 51) fun h29 =>
   ob (kstore 7 (.ptr (Heap.next h24) 0) v27 h29) fun h30 =>
   ob (kloadN 7 h30 (.ptr (Heap.next h24) 0)) fun v31 =>
   ob (abuildSlice Tryz.prog 127 1 [(0, v31)]) fun r32 => Heap.pushK h30 (.cells r32.1 true r32.2.2) fun h33 =>
   ob (aappend Tryz.prog h33 127 127 l_14 (.slice (Heap.next h30) 0 1 1 r32.2.1)) fun r34 =>
   ob (kbinI .add v16 (.int .i64 (.ofNat 1))) fun v35 =>
   (some ⟨0, [w_13, r34.1, v15, v35], ds11, r34.2⟩)) (fun p25 h26 => (some ⟨2, [p25], ds11, h26⟩)))
   ((some ⟨1, [l_14], ds11, h12⟩))) rounds [w_1, AV.nilslice, v6, (.int .i64 (.ofNat 0))] [] h7) fun r36 => kcase (J.i r36) [kv1 (J.vs r36) fun l_37 =>
  (dleave (fun h38 => (some (false, l_37, h38))) (J.ds r36) (J.h r36)),
 kv1 (J.vs r36) fun p39 => (kds (J.ds r36) (some (true, p39, (J.h r36))))]) (fun p8 h9 => (some (true, p8, h9)))
theorem F46_ok {S : FS} {D : FD} (hS : SpecsOK Tryz.prog S) (hD : DynOK Tryz.prog D) : SpecOK Tryz.prog 46 (F46 S D) :=
  SpecOK.of (c := match Tryz.f46.body with | some c => c | none => .skip) (by kernel_rfl) hS hD ⟨Tryz.func46, rfl, by decide⟩
    (.seq .n (.seq .n (.seq (.seq .n (.one (.loop [0, 3, 11, 12] [(.exit 0, [3]), (.pan, [])] (.seq .n (.seq (.dup .n .n) (.seq (.one (.seq .n (.seq .n .n))) .n)))))) (.seq .n .n)))) 1 (fun args h => by kernel_rfl)
/-- (*roundhouse/world.World).look -/
noncomputable def F47 (S : FS) (D : FD) (args : List AV) (h : Heap) : Option (Bool × AV × Heap) :=
 kv2 args fun w_1 before_2 =>
 ob (knil w_1) fun v3 =>
 ob (kfa 0 v3) fun v4 =>
 ob (kload h v4) fun v5 =>
 ob (klenL v5) fun v6 =>
 ob (iterD (fun vs7 ds8 h9 => kv5 vs7 fun w_10 before_11 v12 v13 v14 =>
  ob (kbinI .lss v14 v13) fun v15 =>
  kif v15
   (ob (kia 1 v12 v14) fun v16 =>
   ob (kload h9 v16) fun v17 =>
   ob (knil w_10) fun v18 =>
   ob (kfa 6 v18) fun v19 =>
   ob (kload h9 v19) fun v20 =>
   ob (kia 1 v20 v14) fun v21 =>
   ob (kload h9 v21) fun v22 =>
   ob (S 33 [v17] h9) fun r23 => kres r23 (fun v24 h25 =>
   kre (kload h25 v21) v22 (kre (kload h25 v19) v20 (ob (aslice Tryz.prog 9 v24 (some v22) none none) fun v28 =>
   ob (S 68 [v28] h25) fun r29 => kres r29 (fun v30 h31 =>
   ob (aextract v30 0) fun v34 =>
   ob (aextract v30 1) fun v35 =>
   ob (klenL v34) fun v36 =>
   ob (iterD (fun vs37 ds38 h39 => kv10 vs37 fun w_40 before_41 id_42 good_43 v44 v45 v46 v47 v48 v49 =>
    ob (kbinI .lss v49 v48) fun v50 =>
    kif v50
     (ob (kia 2 v47 v49) fun v51 =>
     ob (kloadN 2 h39 v51) fun v52 =>
     Heap.pushK h39 (.cells [(.int .i64 (.ofNat 0)), (.str 0 0)] true 165) fun h53 =>
     ob (kstore 2 (.ptr (Heap.next h39) 0) v52 h53) fun h54 =>
     ob (kfa 1 (.ptr (Heap.next h39) 0)) fun v55 =>
     ob (kload h54 v55) fun v56 =>
     ob (S 69 [v56] h54) fun r57 => kres r57 (fun v58 h59 =>
     ob (aextract v58 0) fun v62 =>
     ob (aextract v58 1) fun v63 =>
     Heap.pushK h59 (.cells [(.int .i64 (.ofNat 0)), (.int .i64 (.ofNat 0)), (.int .i64 (.ofNat 0)), (.int .i64 (.ofNat 0)), (.int .i64 (.ofNat 0)), AV.nilslice] true 167) fun h64 =>
     ob (kstore 6 (.ptr (Heap.next h59) 0) v62 h64) fun h65 =>
     ob (knil w_40) fun v66 =>
     ob (kfa 5 v66) fun v67 =>
     ob (kload h65 v67) fun v68 =>
     ob (kfa 0 (.ptr (Heap.next h59) 0)) fun v69 =>
     ob (kload h65 v69) fun v70 =>
     ob (kfa 1 (.ptr (Heap.next h59) 0)) fun v71 =>
     ob (kload h65 v71) fun v72 =>
     ob (kfa 2 (.ptr (Heap.next h59) 0)) fun v73 =>
     ob (kload h65 v73) fun v74 =>
     ob (kfa 3 (.ptr (Heap.next h59) 0)) fun v75 =>
     ob (kload h65 v75) fun v76 =>
     ob (kfa 4 (.ptr (Heap.next h59) 0)) fun v77 =>
     ob (kload h65 v77) fun v78 =>
     ob (abuild Tryz.prog 174 [(0, v70), (1, id_42), (2, v72), (3, v74), (4, v76), (5, v78)]) fun v79 =>
     kfree h65 (ob (abuildSlice Tryz.prog 72 1 [(0, v79)]) fun r80 => Heap.pushK h65 (.cells r80.1 true r80.2.2) fun h81 =>
     ob (aappend Tryz.prog h81 72 72 v68 (.slice (Heap.next h65) 0 1 1 r80.2.1)) fun r82 =>
     ob (knil w_40) fun v83 =>
     ob (kfa 5 v83) fun v84 =>
     ob (kstore 1 v84 r82.1 r82.2) fun h85 =>
     ob (kbinI .add v49 (.int .i64 (.ofNat 1))) fun v86 =>
     (some ⟨0, [w_40, before_41, id_42, good_43, v44, v45, v46, v47, v48, v86], ds38, h85⟩))) (fun p60 h61 => (some ⟨2, [p60], ds38, h61⟩)))
     ((some ⟨1, [w_40, before_41, id_42, good_43, v44, v45, v46], ds38, h39⟩))) rounds [w_10, before_11, v14, v35, v12, v13, v14, v34, v36, (.int .i64 (.ofNat 0))] ds8 h31) fun r87 => kcase (J.i r87) [kv7 (J.vs r87) fun w_88 before_89 id_90 good_91 v92 v93 v94 =>
    ob (knil w_88) fun v95 =>
    ob (kfa 6 v95) fun v96 =>
    ob (kload (J.h r87) v96) fun v97 =>
    ob (kia 1 v97 id_90) fun v98 =>
    ob (kload (J.h r87) v98) fun v99 =>
    ob (kbinI .add v99 good_91) fun v100 =>
    ob (kia 1 v97 id_90) fun v101 =>
    ob (kstore 1 v101 v100 (J.h r87)) fun h102 =>
    ob (kbinI .add v94 (.int .i64 (.ofNat 1))) fun v103 =>
    (some ⟨0, [w_88, before_89, v92, v93, v103], (J.ds r87), h102⟩),
   kv1 (J.vs r87) fun p104 => (some ⟨2, [p104], (J.ds r87), (J.h r87)⟩)]) (fun p32 h33 => (some ⟨2, [p32], ds8, h33⟩))))) (fun p26 h27 => none))
   ((some ⟨1, [w_10, before_11], ds8, h9⟩))) rounds [w_1, before_2, v5, v6, (.int .i64 (.ofNat 0))] [] h) fun r105 => kcase (J.i r105) [kv2 (J.vs r105) fun w_106 before_107 =>
  ob (S 46 [w_106] (J.h r105)) fun r108 => kres r108 (fun v109 h110 =>
  ob (klenL v109) fun v113 =>
  ob (iterD (fun vs114 ds115 h116 => kv5 vs114 fun w_117 before_118 v119 v120 v121 =>
   ob (kbinI .lss v121 v120) fun v122 =>
   kif v122
    (ob (ob (kia 7 v119 v121) fun v124 =>
     ob (kloadN 7 h116 v124) fun v125 =>
     Heap.pushK h116 (.cells [(.int .i64 (.ofNat 0)), (.int .i64 (.ofNat 0)), (.int .i64 (.ofNat 0)), (.int .i64 (.ofNat 0)), (.int .i64 (.ofNat 0)), AV.nilslice, AV.nilslice] true 51) fun h126 =>
     ob (kstore 7 (.ptr (Heap.next h116) 0) v125 h126) fun h127 =>
     ob (klenL before_118) fun v128 =>
     ob (kbinI .geq v121 v128) fun v129 =>
     ob (kgv false v129 (some before_118)) fun v130 =>
     ob (kgv false v129 (some v121)) fun v131 =>
     ob (kgv false v129 (kia 7 v130 v131)) fun v132 =>
     ob (kgv false v129 (kfa 1 v132)) fun v133 =>
     ob (kgv false v129 (kload h127 v133)) fun v134 =>
     ob (kgv false v129 (kfa 1 (.ptr (Heap.next h116) 0))) fun v135 =>
     ob (kgv false v129 (kload h127 v135)) fun v136 =>
     ob (kgv false v129 (kbinI .neq v134 v136)) fun v137 =>
     ob (kpick v129 (.bool true) v137) fun v138 =>
     kif v138
      ((some ⟨0, [w_117, before_118, v119, v120, v121], ds115, h127⟩))
      (ob (kfa 5 (.ptr (Heap.next h116) 0)) fun v139 =>
      ob (kload h127 v139) fun v140 =>
      ob (klenL v140) fun v141 =>
      ob (iterD (fun vs142 ds143 h144 => kv9 vs142 fun w_145 before_146 i_147 j_148 v149 v150 v151 v152 v153 =>
       ob (kbinI .lss v153 v152) fun v154 =>
       kif v154
        (ob (kfa 0 j_148) fun v155 =>
        ob (kload h144 v155) fun v156 =>
        ob (kfa 1 j_148) fun v157 =>
        ob (kload h144 v157) fun v158 =>
        ob (abuild Tryz.prog 174 [(0, (.int .i64 (.ofNat 10))), (1, (.int .i64 (.negSucc 0))), (2, v156), (3, v158), (4, v153), (5, (.int .i64 (.ofNat 0)))]) fun v159 =>
        Heap.pushK h144 (.cells [(.int .i64 (.ofNat 0)), (.int .i64 (.ofNat 0)), (.int .i64 (.ofNat 0)), (.int .i64 (.ofNat 0)), (.int .i64 (.ofNat 0)), (.int .i64 (.ofNat 0))] true 174) fun h160 =>
        ob (kstore 6 (.ptr (Heap.next h144) 0) v159 h160) fun h161 =>
        ob (kfa 6 j_148) fun v162 =>
        ob (kload h161 v162) fun v163 =>
        ob (kia 1 v163 v153) fun v164 =>
        ob (kload h161 v164) fun v165 =>
        ob (S 95 [v165] h161) fun r166 => kres r166 (fun v167 h168 =>
        ob (kgv true v167 (some before_146)) fun v171 =>
        ob (kgv true v167 (some i_147)) fun v172 =>
        ob (kgv true v167 (kia 7 v171 v172)) fun v173 =>
        ob (kgv true v167 (kfa 6 v173)) fun v174 =>
        ob (kgv true v167 (kload h168 v174)) fun v175 =>
        ob (kgv true v167 (some v153)) fun v176 =>
        ob (kgv true v167 (kia 1 v175 v176)) fun v177 =>
        ob (kgv true v167 (kload h168 v177)) fun v178 =>
        ob (kgc true v167 h168 (S 95 [v178] h168)) fun r179 => kres r179 (fun v180 h181 =>
        ob (kgv true v167 (aun .not v180)) fun v184 =>
        ob (kpick v167 v184 (.bool false)) fun v185 =>
        ob (kif v185
         (ob (knil w_145) fun v187 =>
         ob (kfa 5 v187) fun v188 =>
         ob (kload h181 v188) fun v189 =>
         ob (kloadN 6 h181 (.ptr (Heap.next h144) 0)) fun v190 =>
         kfree h181 (ob (abuildSlice Tryz.prog 72 1 [(0, v190)]) fun r191 => Heap.pushK h181 (.cells r191.1 true r191.2.2) fun h192 =>
         ob (aappend Tryz.prog h192 72 72 v189 (.slice (Heap.next h181) 0 1 1 r191.2.1)) fun r193 =>
         ob (knil w_145) fun v194 =>
         ob (kfa 5 v194) fun v195 =>
         ob (kstore 1 v195 r193.1 r193.2) fun h196 =>
         (some ⟨0, [w_145, before_146, i_147, j_148, v153, (.ptr (Heap.next h144) 0), v149, v150, v151, v152, v153], ds143, h196⟩)))
         ((some ⟨0, [w_145, before_146, i_147, j_148, v153, (.ptr (Heap.next h144) 0), v149, v150, v151, v152, v153], ds143, h181⟩))) fun r186 => kcase (J.i r186) [kv11 (J.vs r186) fun w_197 before_198 i_199 j_200 k_201 x_202 v203 v204 v205 v206 v207 =>
         ob (kfa 5 j_200) fun v208 =>
         ob (kload (J.h r186) v208) fun v209 =>
         ob (kia 1 v209 k_201) fun v210 =>
         ob (kload (J.h r186) v210) fun v211 =>
         ob (kbinI .neq v211 (.int .i64 (.negSucc 0))) fun v212 =>
         ob (kgv true v212 (some before_198)) fun v213 =>
         ob (kgv true v212 (some i_199)) fun v214 =>
         ob (kgv true v212 (kia 7 v213 v214)) fun v215 =>
         ob (kgv true v212 (kfa 5 v215)) fun v216 =>
         ob (kgv true v212 (kload (J.h r186) v216)) fun v217 =>
         ob (kgv true v212 (some k_201)) fun v218 =>
         ob (kgv true v212 (kia 1 v217 v218)) fun v219 =>
         ob (kgv true v212 (kload (J.h r186) v219)) fun v220 =>
         ob (kgv true v212 (kbinI .eql v220 (.int .i64 (.negSucc 0)))) fun v221 =>
         ob (kpick v212 v221 (.bool false)) fun v222 =>
         ob (kif v222
          (ob (kfa 5 j_200) fun v224 =>
          ob (kload (J.h r186) v224) fun v225 =>
          ob (kia 1 v225 k_201) fun v226 =>
          ob (kload (J.h r186) v226) fun v227 =>
          ob (kfa 0 x_202) fun v228 =>
          ob (kstore 1 v228 (.int .i64 (.ofNat 11)) (J.h r186)) fun h229 =>
          kre (kload h229 v226) v227 (kre (kload h229 v224) v225 (ob (kfa 5 x_202) fun v230 =>
          ob (kstore 1 v230 v227 h229) fun h231 =>
          ob (knil w_197) fun v232 =>
          ob (kfa 5 v232) fun v233 =>
          ob (kload h231 v233) fun v234 =>
          ob (kloadN 6 h231 x_202) fun v235 =>
          kfree h231 (ob (abuildSlice Tryz.prog 72 1 [(0, v235)]) fun r236 => Heap.pushK h231 (.cells r236.1 true r236.2.2) fun h237 =>
          ob (aappend Tryz.prog h237 72 72 v234 (.slice (Heap.next h231) 0 1 1 r236.2.1)) fun r238 =>
          ob (knil w_197) fun v239 =>
          ob (kfa 5 v239) fun v240 =>
          ob (kstore 1 v240 r238.1 r238.2) fun h241 =>
          (some ⟨0, [w_197, before_198, i_199, j_200, v203, v204, v205, v206, v207], (J.ds r186), h241⟩)))))
          ((some ⟨0, [w_197, before_198, i_199, j_200, v203, v204, v205, v206, v207], (J.ds r186), (J.h r186)⟩))) fun r223 => kcase (J.i r223) [kv9 (J.vs r223) fun w_242 before_243 i_244 j_245 v246 v247 v248 v249 v250 =>
          ob (kbinI .add v250 (.int .i64 (.ofNat 1))) fun v251 =>
          (some ⟨0, [w_242, before_243, i_244, j_245, v246, v247, v248, v249, v251], (J.ds r223), (J.h r223)⟩)]]) (fun p182 h183 => (some ⟨2, [p182], ds143, h183⟩))) (fun p169 h170 => (some ⟨2, [p169], ds143, h170⟩)))
        ((some ⟨1, [w_145, before_146, v149, v150, v151], ds143, h144⟩))) rounds [w_117, before_118, v121, (.ptr (Heap.next h116) 0), v119, v120, v121, v141, (.int .i64 (.ofNat 0))] ds115 h127) fun r252 => kcase (J.i r252) [kv5 (J.vs r252) fun w_253 before_254 v255 v256 v257 =>
       (some ⟨0, [w_253, before_254, v255, v256, v257], (J.ds r252), (J.h r252)⟩),
      kv1 (J.vs r252) fun p258 => (some ⟨1, [p258], (J.ds r252), (J.h r252)⟩)])) fun r123 => kcase (J.i r123) [kv5 (J.vs r123) fun w_259 before_260 v261 v262 v263 =>
     ob (kbinI .add v263 (.int .i64 (.ofNat 1))) fun v264 =>
     (some ⟨0, [w_259, before_260, v261, v262, v264], (J.ds r123), (J.h r123)⟩),
    kv1 (J.vs r123) fun p265 => (some ⟨2, [p265], (J.ds r123), (J.h r123)⟩)])
    ((some ⟨1, [], ds115, h116⟩))) rounds [w_106, before_107, v109, v113, (.int .i64 (.ofNat 0))] (J.ds r105) h110) fun r266 => kcase (J.i r266) [kv0 (J.vs r266) ((dleave (fun h267 => (some (false, (.tuple []), h267))) (J.ds r266) (J.h r266))),
  kv1 (J.vs r266) fun p268 => (kds (J.ds r266) (some (true, p268, (J.h r266))))]) (fun p111 h112 => (kds (J.ds r105) (some (true, p111, h112)))),
 kv1 (J.vs r105) fun p269 => (kds (J.ds r105) (some (true, p269, (J.h r105))))]
theorem F47_ok {S : FS} {D : FD} (hS : SpecsOK Tryz.prog S) (hD : DynOK Tryz.prog D) : SpecOK Tryz.prog 47 (F47 S D) :=
  SpecOK.of (c := match Tryz.f47.body with | some c => c | none => .skip) (by kernel_rfl) hS hD ⟨Tryz.func47, rfl, by decide⟩
    (.seq (.seq .n (.one (.loop [0, 1, 19, 20, 21] [(.exit 0, [0, 1]), (.pan, [])] (.seq .n (.seq (.dup .n .n) (.seq (.one (.seq .n (.seq .n (.seq (.seq .n (.one (.loop [0, 1, 4, 7, 19, 20, 21, 40, 41, 42] [(.exit 2, [0, 1, 4, 7, 19, 20, 21]), (.pan, [])] (.seq .n (.seq (.dup .n .n) (.seq (.one (.seq .n (.seq .n .n))) .n)))))) .n)))) .n)))))) (.seq .n (.one (.loop [0, 1, 86, 87, 88] [(.exit 4, []), (.pan, [])] (.seq .n (.seq (.dup .n .n) (.seq (.join [(.norm, [0, 1, 86, 87, 88]), (.pan, [])] (.one (.seq .n (.seq (.seq .n (.dup .n .n)) (.seq .n (.one (.loop [0, 1, 12, 13, 86, 87, 88, 109, 110] [(.exit 6, [0, 1, 86, 87, 88]), (.pan, [])] (.seq .n (.seq (.dup .n .n) (.seq (.one (.seq .n (.seq .n (.seq (.seq .n (.join [(.norm, [0, 1, 12, 13, 14, 15, 86, 87, 88, 109, 110])] (.dup .n .n))) (.seq .n (.join [(.norm, [0, 1, 12, 13, 86, 87, 88, 109, 110])] (.dup (.seq .n .n) .n))))))) .n)))))))))) .n))))))) 2 (fun args h => by kernel_rfl)
/-- slices.Sorted[int] -/
noncomputable def F48 (S : FS) (D : FD) (args : List AV) (h : Heap) : Option (Bool × AV × Heap) :=
 kv1 args fun seq_1 =>
 ob (S 96 [seq_1] h) fun r2 => kres r2 (fun v3 h4 =>
 ob (S 71 [v3] h4) fun r7 => kres r7 (fun v8 h9 =>
 (some (false, v3, h9))) (fun p10 h11 => (some (true, p10, h11)))) (fun p5 h6 => (some (true, p5, h6)))
theorem F48_ok {S : FS} {D : FD} (hS : SpecsOK Tryz.prog S) (hD : DynOK Tryz.prog D) : SpecOK Tryz.prog 48 (F48 S D) :=
  SpecOK.of (c := match Tryz.f48.body with | some c => c | none => .skip) (by kernel_rfl) hS hD ⟨Tryz.func48, rfl, by decide⟩
    (.seq .n (.seq .n (.seq .n (.seq .n .n)))) 1 (fun args h => by kernel_rfl)
/-- maps.Keys[map[int]*roundhouse/procs.process,int,*roundhouse/procs.process] -/
noncomputable def F49 (S : FS) (D : FD) (args : List AV) (h : Heap) : Option (Bool × AV × Heap) :=
 kv1 args fun m_1 =>
 knt m_1 (Heap.pushK h (.cells (AV.cells m_1) true 134) fun h2 =>
 (some (false, (.func 97 [(.ptr (Heap.next h) 0)]), h2)))
theorem F49_ok {S : FS} {D : FD} (hS : SpecsOK Tryz.prog S) (hD : DynOK Tryz.prog D) : SpecOK Tryz.prog 49 (F49 S D) :=
  SpecOK.of (c := match Tryz.f49.body with | some c => c | none => .skip) (by kernel_rfl) hS hD ⟨Tryz.func49, rfl, by decide⟩
    (.seq .n (.seq .n .n)) 1 (fun args h => by kernel_rfl)
/-- slices.insertionSortCmpFunc[roundhouse/audit.Owner] -/
noncomputable def F50 (S : FS) (D : FD) (args : List AV) (h : Heap) : Option (Bool × AV × Heap) :=
 kv4 args fun data_1 a_2 b_3 cmp_4 =>
 ob (kbinI .add a_2 (.int .i64 (.ofNat 1))) fun v5 =>
 ob (iterD (fun vs6 ds7 h8 => kv5 vs6 fun data_9 a_10 b_11 cmp_12 i_13 =>
  ob (kbinI .lss i_13 b_11) fun v14 =>
  kif v14
   (ob (iterD (fun vs15 ds16 h17 => kv6 vs15 fun data_18 a_19 b_20 cmp_21 i_22 j_23 =>
    ob (kbinI .gtr j_23 a_19) fun v24 =>
    ob (kgv true v24 (some cmp_21)) fun v25 =>
    ob (kgv true v24 (some data_18)) fun v26 =>
    ob (kgv true v24 (some j_23)) fun v27 =>
    ob (kgv true v24 (kia 6 v26 v27)) fun v28 =>
    ob (kgv true v24 (kloadN 6 h17 v28)) fun v29 =>
    ob (kgv true v24 (some data_18)) fun v30 =>
    ob (kgv true v24 (some j_23)) fun v31 =>
    ob (kgv true v24 (kbinI .sub v31 (.int .i64 (.ofNat 1)))) fun v32 =>
    ob (kgv true v24 (kia 6 v30 v32)) fun v33 =>
    ob (kgv true v24 (kloadN 6 h17 v33)) fun v34 =>
    ob (kgc true v24 h17 (D v25 [v29, v34] h17)) fun r35 => kres r35 (fun v36 h37 =>
    ob (kgv true v24 (kbinI .lss v36 (.int .i64 (.ofNat 0)))) fun v40 =>
    ob (kpick v24 v40 (.bool false)) fun v41 =>
    kif v41
     (ob (kbinI .sub j_23 (.int .i64 (.ofNat 1))) fun v42 =>
     ob (kbinI .sub j_23 (.int .i64 (.ofNat 1))) fun v43 =>
     ob (kia 6 data_18 v43) fun v44 =>
     ob (kloadN 6 h37 v44) fun v45 =>
     ob (kia 6 data_18 j_23) fun v46 =>
     ob (kloadN 6 h37 v46) fun v47 =>
     ob (kia 6 data_18 j_23) fun v48 =>
     ob (kstore 6 v48 v45 h37) fun h49 =>
     ob (kia 6 data_18 v42) fun v50 =>
     ob (kstore 6 v50 v47 h49) fun h51 =>
     ob (kbinI .sub j_23 (.int .i64 (.ofNat 1))) fun v52 =>
     (some ⟨0, [data_18, a_19, b_20, cmp_21, i_22, v52], ds16, h51⟩))
     ((some ⟨1, [data_18, a_19, b_20, cmp_21, i_22], ds16, h37⟩))) (fun p38 h39 => (some ⟨2, [p38], ds16, h39⟩))) rounds [data_9, a_10, b_11, cmp_12, i_13, i_13] ds7 h8) fun r53 => kcase (J.i r53) [kv5 (J.vs r53) fun data_54 a_55 b_56 cmp_57 i_58 =>
    ob (kbinI .add i_58 (.int .i64 (.ofNat 1))) fun v59 =>
    (some ⟨0, [data_54, a_55, b_56, cmp_57, v59], (J.ds r53), (J.h r53)⟩),
   kv1 (J.vs r53) fun p60 => (some ⟨2, [p60], (J.ds r53), (J.h r53)⟩)])
   ((some ⟨1, [], ds7, h8⟩))) rounds [data_1, a_2, b_3, cmp_4, v5] [] h) fun r61 => kcase (J.i r61) [kv0 (J.vs r61) ((dleave (fun h62 => (some (false, (.tuple []), h62))) (J.ds r61) (J.h r61))),
 kv1 (J.vs r61) fun p63 => (kds (J.ds r61) (some (true, p63, (J.h r61))))]
theorem F50_ok {S : FS} {D : FD} (hS : SpecsOK Tryz.prog S) (hD : DynOK Tryz.prog D) : SpecOK Tryz.prog 50 (F50 S D) :=
  SpecOK.of (c := match Tryz.f50.body with | some c => c | none => .skip) (by kernel_rfl) hS hD ⟨Tryz.func50, rfl, by decide⟩
    (.seq .n (.one (.loop [0, 1, 2, 3, 8] [(.exit 0, []), (.pan, [])] (.seq (.seq .n (.dup .n .n)) (.seq (.one (.seq .n (.one (.loop [0, 1, 2, 3, 8, 9] [(.exit 2, [0, 1, 2, 3, 8]), (.pan, [])] (.seq (.seq .n (.dup .n .n)) (.seq (.one .n) .n)))))) .n))))) 4 (fun args h => by kernel_rfl)
/-- slices.heapSortCmpFunc[roundhouse/audit.Owner] -/
noncomputable def F51 (S : FS) (D : FD) (args : List AV) (h : Heap) : Option (Bool × AV × Heap) :=
 kv4 args fun data_1 a_2 b_3 cmp_4 =>
 ob (kbinI .sub b_3 a_2) fun v5 =>
 ob (kbinI .sub v5 (.int .i64 (.ofNat 1))) fun v6 =>
 ob (kbinI .quo v6 (.int .i64 (.ofNat 2))) fun v7 =>
 ob (iterD (fun vs8 ds9 h10 => kv6 vs8 fun data_11 cmp_12 first_13 lo_14 hi_15 i_16 =>
  ob (kbinI .geq i_16 (.int .i64 (.ofNat 0))) fun v17 =>
  kif v17
   (ob (S 98 [data_11, i_16, hi_15, first_13, cmp_12] h10) fun r18 => kres r18 (fun v19 h20 =>
   ob (kbinI .sub i_16 (.int .i64 (.ofNat 1))) fun v23 =>
   (some ⟨0, [data_11, cmp_12, first_13, lo_14, hi_15, v23], ds9, h20⟩)) (fun p21 h22 => (some ⟨2, [p21], ds9, h22⟩)))
   ((some ⟨1, [data_11, cmp_12, first_13, lo_14, hi_15], ds9, h10⟩))) rounds [data_1, cmp_4, a_2, (.int .i64 (.ofNat 0)), v5, v7] [] h) fun r24 => kcase (J.i r24) [kv5 (J.vs r24) fun data_25 cmp_26 first_27 lo_28 hi_29 =>
  ob (kbinI .sub hi_29 (.int .i64 (.ofNat 1))) fun v30 =>
  ob (iterD (fun vs31 ds32 h33 => kv5 vs31 fun data_34 cmp_35 first_36 lo_37 i_38 =>
   ob (kbinI .geq i_38 (.int .i64 (.ofNat 0))) fun v39 =>
   kif v39
    (ob (kbinI .add first_36 i_38) fun v40 =>
    ob (kbinI .add first_36 i_38) fun v41 =>
    ob (kia 6 data_34 v41) fun v42 =>
    ob (kloadN 6 h33 v42) fun v43 =>
    ob (kia 6 data_34 first_36) fun v44 =>
    ob (kloadN 6 h33 v44) fun v45 =>
    ob (kia 6 data_34 first_36) fun v46 =>
    ob (kstore 6 v46 v43 h33) fun h47 =>
    ob (kia 6 data_34 v40) fun v48 =>
    ob (kstore 6 v48 v45 h47) fun h49 =>
    ob (S 98 [data_34, lo_37, i_38, first_36, cmp_35] h49) fun r50 => kres r50 (fun v51 h52 =>
    ob (kbinI .sub i_38 (.int .i64 (.ofNat 1))) fun v55 =>
    (some ⟨0, [data_34, cmp_35, first_36, lo_37, v55], ds32, h52⟩)) (fun p53 h54 => (some ⟨2, [p53], ds32, h54⟩)))
    ((some ⟨1, [], ds32, h33⟩))) rounds [data_25, cmp_26, first_27, lo_28, v30] (J.ds r24) (J.h r24)) fun r56 => kcase (J.i r56) [kv0 (J.vs r56) ((dleave (fun h57 => (some (false, (.tuple []), h57))) (J.ds r56) (J.h r56))),
  kv1 (J.vs r56) fun p58 => (kds (J.ds r56) (some (true, p58, (J.h r56))))],
 kv1 (J.vs r24) fun p59 => (kds (J.ds r24) (some (true, p59, (J.h r24))))]
theorem F51_ok {S : FS} {D : FD} (hS : SpecsOK Tryz.prog S) (hD : DynOK Tryz.prog D) : SpecOK Tryz.prog 51 (F51 S D) :=
  SpecOK.of (c := match Tryz.f51.body with | some c => c | none => .skip) (by kernel_rfl) hS hD ⟨Tryz.func51, rfl, by decide⟩
    (.seq .n (.seq .n (.seq .n (.seq (.seq .n (.one (.loop [0, 3, 8, 9, 10, 11] [(.exit 0, [0, 3, 8, 9, 10]), (.pan, [])] (.seq (.seq .n (.dup .n .n)) (.seq (.one .n) .n))))) (.seq .n (.one (.loop [0, 3, 8, 9, 12] [(.exit 2, []), (.pan, [])] (.seq (.seq .n (.dup .n .n)) (.seq (.one (.seq .n .n)) .n))))))))) 4 (fun args h => by kernel_rfl)
/-- slices.breakPatternsCmpFunc[roundhouse/audit.Owner] -/
noncomputable def F52 (S : FS) (D : FD) (args : List AV) (h : Heap) : Option (Bool × AV × Heap) :=
 kv4 args fun data_1 a_2 b_3 cmp_4 =>
 ob (kbinI .sub b_3 a_2) fun v5 =>
 ob (kbinI .geq v5 (.int .i64 (.ofNat 8))) fun v6 =>
 ob (kif v6
  (ob (kconvI .u64 v5) fun v8 =>
  Heap.pushK h (.cells [(.int .u64 (.ofNat 0))] true 194) fun h9 =>
  ob (kstore 1 (.ptr (Heap.next h) 0) v8 h9) fun h10 =>
  ob (S 99 [v5] h10) fun r11 => kres r11 (fun v12 h13 =>
  ob (kbinI .quo v5 (.int .i64 (.ofNat 4))) fun v16 =>
  ob (kbinI .mul v16 (.int .i64 (.ofNat 2))) fun v17 =>
  ob (kbinI .add a_2 v17) fun v18 =>
  ob (kbinI .sub v18 (.int .i64 (.ofNat 1))) fun v19 =>
  ob (iterD (fun vs20 ds21 h22 => kv6 vs20 fun data_23 a_24 length_25 random_26 modulus_27 idx_28 =>
   ob (kbinI .quo length_25 (.int .i64 (.ofNat 4))) fun v29 =>
   ob (kbinI .mul v29 (.int .i64 (.ofNat 2))) fun v30 =>
   ob (kbinI .add a_24 v30) fun v31 =>
   ob (kbinI .add v31 (.int .i64 (.ofNat 1))) fun v32 =>
   ob (kbinI .leq idx_28 v32) fun v33 =>
   kif v33
    (ob (S 100 [random_26] h22) fun r34 => kres r34 (fun v35 h36 =>
    ob (kbinI .sub modulus_27 (.int .u64 (.ofNat 1))) fun v39 =>
    ob (kbinI .and v35 v39) fun v40 =>
    ob (kconvI .i64 v40) fun v41 =>
    ob (kbinI .geq v41 length_25) fun v42 =>
    ob (kif v42
     (ob (kbinI .sub v41 length_25) fun v44 =>
     (some ⟨0, [data_23, a_24, length_25, random_26, modulus_27, idx_28, v44], ds21, h36⟩))
     ((some ⟨0, [data_23, a_24, length_25, random_26, modulus_27, idx_28, v41], ds21, h36⟩))) fun r43 => kcase (J.i r43) [kv7 (J.vs r43) fun data_45 a_46 length_47 random_48 modulus_49 idx_50 other_51 =>
     ob (kbinI .add a_46 other_51) fun v52 =>
     ob (kbinI .add a_46 other_51) fun v53 =>
     ob (kia 6 data_45 v53) fun v54 =>
     ob (kloadN 6 (J.h r43) v54) fun v55 =>
     ob (kia 6 data_45 idx_50) fun v56 =>
     ob (kloadN 6 (J.h r43) v56) fun v57 =>
     ob (kia 6 data_45 idx_50) fun v58 =>
     ob (kstore 6 v58 v55 (J.h r43)) fun h59 =>
     ob (kia 6 data_45 v52) fun v60 =>
     ob (kstore 6 v60 v57 h59) fun h61 =>
     ob (kbinI .add idx_50 (.int .i64 (.ofNat 1))) fun v62 =>
     (some ⟨0, [data_45, a_46, length_47, random_48, modulus_49, v62], (J.ds r43), h61⟩)]) (fun p37 h38 => (some ⟨2, [p37], ds21, h38⟩)))
    ((some ⟨1, [], ds21, h22⟩))) rounds [data_1, a_2, v5, (.ptr (Heap.next h) 0), v12, v19] [] h13) fun r63 => kcase (J.i r63) [kv0 (J.vs r63) ((some ⟨0, [], (J.ds r63), (J.h r63)⟩)),
  kv1 (J.vs r63) fun p64 => (some ⟨1, [p64], (J.ds r63), (J.h r63)⟩)]) (fun p14 h15 => (some ⟨1, [p14], [], h15⟩)))
  ((some ⟨0, [], [], h⟩))) fun r7 => kcase (J.i r7) [kv0 (J.vs r7) ((dleave (fun h65 => (some (false, (.tuple []), h65))) (J.ds r7) (J.h r7))),
 kv1 (J.vs r7) fun p66 => (kds (J.ds r7) (some (true, p66, (J.h r7))))]
theorem F52_ok {S : FS} {D : FD} (hS : SpecsOK Tryz.prog S) (hD : DynOK Tryz.prog D) : SpecOK Tryz.prog 52 (F52 S D) :=
  SpecOK.of (c := match Tryz.f52.body with | some c => c | none => .skip) (by kernel_rfl) hS hD ⟨Tryz.func52, rfl, by decide⟩
    (.seq .n (.seq .n (.join [(.norm, []), (.pan, [])] (.dup (.seq .n (.seq .n (.seq .n (.one (.loop [0, 1, 8, 9, 10, 11] [(.exit 0, []), (.pan, [])] (.seq (.seq .n (.dup .n .n)) (.seq (.one (.seq .n (.seq (.seq .n (.join [(.norm, [0, 1, 8, 9, 10, 11, 12])] (.dup .n .n))) .n))) .n))))))) .n)))) 4 (fun args h => by kernel_rfl)
/-- slices.choosePivotCmpFunc[roundhouse/audit.Owner] -/
noncomputable def F53 (S : FS) (D : FD) (args : List AV) (h : Heap) : Option (Bool × AV × Heap) :=
 kv4 args fun data_1 a_2 b_3 cmp_4 =>
 ob (kbinI .sub b_3 a_2) fun v5 =>
 Heap.pushK h (.cells [(.int .i64 (.ofNat 0))] true 3) fun h6 =>
 ob (kbinI .quo v5 (.int .i64 (.ofNat 4))) fun v7 =>
 ob (kbinI .mul v7 (.int .i64 (.ofNat 1))) fun v8 =>
 ob (kbinI .add a_2 v8) fun v9 =>
 ob (kbinI .quo v5 (.int .i64 (.ofNat 4))) fun v10 =>
 ob (kbinI .mul v10 (.int .i64 (.ofNat 2))) fun v11 =>
 ob (kbinI .add a_2 v11) fun v12 =>
 ob (kbinI .quo v5 (.int .i64 (.ofNat 4))) fun v13 =>
 ob (kbinI .mul v13 (.int .i64 (.ofNat 3))) fun v14 =>
 ob (kbinI .add a_2 v14) fun v15 =>
 ob (kbinI .geq v5 (.int .i64 (.ofNat 8))) fun v16 =>
 ob (kif v16
  (ob (kbinI .geq v5 (.int .i64 (.ofNat 50))) fun v18 =>
  ob (kif v18
   (ob (S 101 [data_1, v9, (.ptr (Heap.next h) 0), cmp_4] h6) fun r20 => kres r20 (fun v21 h22 =>
   ob (S 101 [data_1, v12, (.ptr (Heap.next h) 0), cmp_4] h22) fun r25 => kres r25 (fun v26 h27 =>
   ob (S 101 [data_1, v15, (.ptr (Heap.next h) 0), cmp_4] h27) fun r30 => kres r30 (fun v31 h32 =>
   (some ⟨0, [data_1, cmp_4, (.ptr (Heap.next h) 0), v21, v26, v31], [], h32⟩)) (fun p33 h34 => (some ⟨1, [p33], [], h34⟩))) (fun p28 h29 => (some ⟨1, [p28], [], h29⟩))) (fun p23 h24 => (some ⟨1, [p23], [], h24⟩)))
   ((some ⟨0, [data_1, cmp_4, (.ptr (Heap.next h) 0), v9, v12, v15], [], h6⟩))) fun r19 => kcase (J.i r19) [kv6 (J.vs r19) fun data_35 cmp_36 swaps_37 i_38 j_39 k_40 =>
   ob (S 102 [data_35, i_38, j_39, k_40, swaps_37, cmp_36] (J.h r19)) fun r41 => kres r41 (fun v42 h43 =>
   (some ⟨0, [swaps_37, v42], (J.ds r19), h43⟩)) (fun p44 h45 => (some ⟨1, [p44], (J.ds r19), h45⟩)),
  kv1 (J.vs r19) fun p46 => (some ⟨1, [p46], (J.ds r19), (J.h r19)⟩)])
  ((some ⟨0, [(.ptr (Heap.next h) 0), v12], [], h6⟩))) fun r17 => kcase (J.i r17) [kv2 (J.vs r17) fun swaps_47 j_48 =>
  ob (kload (J.h r17) swaps_47) fun v49 =>
  ob (kbinI .eql v49 (.int .i64 (.ofNat 0))) fun v50 =>
  kif v50
   ((dleave (fun h51 => (some (false, (.tuple [j_48, (.int .i64 (.ofNat 1))]), h51))) (J.ds r17) (J.h r17)))
   (ob (kbinI .eql v49 (.int .i64 (.ofNat 12))) fun v52 =>
   kif v52
    ((dleave (fun h53 => (some (false, (.tuple [j_48, (.int .i64 (.ofNat 2))]), h53))) (J.ds r17) (J.h r17)))
    ((dleave (fun h54 => (some (false, (.tuple [j_48, (.int .i64 (.ofNat 0))]), h54))) (J.ds r17) (J.h r17)))),
 kv1 (J.vs r17) fun p55 => (kds (J.ds r17) (some (true, p55, (J.h r17))))]
theorem F53_ok {S : FS} {D : FD} (hS : SpecsOK Tryz.prog S) (hD : DynOK Tryz.prog D) : SpecOK Tryz.prog 53 (F53 S D) :=
  SpecOK.of (c := match Tryz.f53.body with | some c => c | none => .skip) (by kernel_rfl) hS hD ⟨Tryz.func53, rfl, by decide⟩
    (.seq .n (.seq .n (.seq .n (.seq .n (.seq .n (.seq .n (.seq (.seq .n (.join [(.norm, [11, 13]), (.pan, [])] (.dup (.seq (.seq .n (.join [(.norm, [0, 3, 11, 12, 13, 14]), (.pan, [])] (.dup (.seq .n (.seq .n .n)) .n))) .n) .n))) (.seq .n (.one (.seq .n (.dup (.seq .n .n) (.seq .n (.dup (.seq .n .n) (.seq .n .n)))))))))))))) 4 (fun args h => by kernel_rfl)
/-- slices.reverseRangeCmpFunc[roundhouse/audit.Owner] -/
noncomputable def F54 (S : FS) (D : FD) (args : List AV) (h : Heap) : Option (Bool × AV × Heap) :=
 kv4 args fun data_1 a_2 b_3 cmp_4 =>
 ob (kbinI .sub b_3 (.int .i64 (.ofNat 1))) fun v5 =>
 ob (iterD (fun vs6 ds7 h8 => kv3 vs6 fun data_9 i_10 j_11 =>
  ob (kbinI .lss i_10 j_11) fun v12 =>
  kif v12
   (ob (kia 6 data_9 j_11) fun v13 =>
   ob (kloadN 6 h8 v13) fun v14 =>
   ob (kia 6 data_9 i_10) fun v15 =>
   ob (kloadN 6 h8 v15) fun v16 =>
   ob (kia 6 data_9 i_10) fun v17 =>
   ob (kstore 6 v17 v14 h8) fun h18 =>
   ob (kia 6 data_9 j_11) fun v19 =>
   ob (kstore 6 v19 v16 h18) fun h20 =>
   ob (kbinI .add i_10 (.int .i64 (.ofNat 1))) fun v21 =>
   ob (kbinI .sub j_11 (.int .i64 (.ofNat 1))) fun v22 =>
   (some ⟨0, [data_9, v21, v22], ds7, h20⟩))
   ((some ⟨1, [], ds7, h8⟩))) rounds [data_1, a_2, v5] [] h) fun r23 => kcase (J.i r23) [kv0 (J.vs r23) ((dleave (fun h24 => (some (false, (.tuple []), h24))) (J.ds r23) (J.h r23)))]
theorem F54_ok {S : FS} {D : FD} (hS : SpecsOK Tryz.prog S) (hD : DynOK Tryz.prog D) : SpecOK Tryz.prog 54 (F54 S D) :=
  SpecOK.of (c := match Tryz.f54.body with | some c => c | none => .skip) (by kernel_rfl) hS hD ⟨Tryz.func54, rfl, by decide⟩
    (.seq .n (.seq .n (.one (.loop [0, 8, 9] [(.exit 0, [])] (.seq (.seq .n (.dup .n .n)) (.one (.seq .n (.seq .n .n)))))))) 4 (fun args h => by kernel_rfl)
/-- slices.partialInsertionSortCmpFunc[roundhouse/audit.Owner] -/
noncomputable def F55 (S : FS) (D : FD) (args : List AV) (h : Heap) : Option (Bool × AV × Heap) :=
 kv4 args fun data_1 a_2 b_3 cmp_4 =>
 ob (kbinI .add a_2 (.int .i64 (.ofNat 1))) fun v5 =>
 ob (iterD (fun vs6 ds7 h8 => kv6 vs6 fun data_9 a_10 b_11 cmp_12 i_13 j_14 =>
  ob (kbinI .lss j_14 (.int .i64 (.ofNat 5))) fun v15 =>
  kif v15
   (ob (iterD (fun vs16 ds17 h18 => kv6 vs16 fun data_19 a_20 b_21 cmp_22 i_23 j_24 =>
    ob (kbinI .lss i_23 b_21) fun v25 =>
    ob (kgv true v25 (some cmp_22)) fun v26 =>
    ob (kgv true v25 (some data_19)) fun v27 =>
    ob (kgv true v25 (some i_23)) fun v28 =>
    ob (kgv true v25 (kia 6 v27 v28)) fun v29 =>
    ob (kgv true v25 (kloadN 6 h18 v29)) fun v30 =>
    ob (kgv true v25 (some data_19)) fun v31 =>
    ob (kgv true v25 (some i_23)) fun v32 =>
    ob (kgv true v25 (kbinI .sub v32 (.int .i64 (.ofNat 1)))) fun v33 =>
    ob (kgv true v25 (kia 6 v31 v33)) fun v34 =>
    ob (kgv true v25 (kloadN 6 h18 v34)) fun v35 =>
    ob (kgc true v25 h18 (D v26 [v30, v35] h18)) fun r36 => kres r36 (fun v37 h38 =>
    ob (kgv true v25 (kbinI .lss v37 (.int .i64 (.ofNat 0)))) fun v41 =>
    ob (kgv true v25 (aun .not v41)) fun v42 =>
    ob (kpick v25 v42 (.bool false)) fun v43 =>
    kif v43
     (ob (kbinI .add i_23 (.int .i64 (.ofNat 1))) fun v44 =>
     (some ⟨0, [data_19, a_20, b_21, cmp_22, v44, j_24], ds17, h38⟩))
     ((some ⟨1, [data_19, a_20, b_21, cmp_22, i_23, j_24], ds17, h38⟩))) (fun p39 h40 => (some ⟨2, [p39], ds17, h40⟩))) rounds [data_9, a_10, b_11, cmp_12, i_13, j_14] ds7 h8) fun r45 => kcase (J.i r45) [kv6 (J.vs r45) fun data_46 a_47 b_48 cmp_49 i_50 j_51 =>
    ob (kbinI .eql i_50 b_48) fun v52 =>
    kif v52
     ((some ⟨2, [(.bool true)], (J.ds r45), (J.h r45)⟩))
     (ob (kbinI .sub b_48 a_47) fun v53 =>
     ob (kbinI .lss v53 (.int .i64 (.ofNat 50))) fun v54 =>
     kif v54
      ((some ⟨2, [(.bool false)], (J.ds r45), (J.h r45)⟩))
      (ob (kbinI .sub i_50 (.int .i64 (.ofNat 1))) fun v55 =>
      ob (kbinI .sub i_50 (.int .i64 (.ofNat 1))) fun v56 =>
      ob (kia 6 data_46 v56) fun v57 =>
      ob (kloadN 6 (J.h r45) v57) fun v58 =>
      ob (kia 6 data_46 i_50) fun v59 =>
      ob (kloadN 6 (J.h r45) v59) fun v60 =>
      ob (kia 6 data_46 i_50) fun v61 =>
      ob (kstore 6 v61 v58 (J.h r45)) fun h62 =>
      ob (kia 6 data_46 v55) fun v63 =>
      ob (kstore 6 v63 v60 h62) fun h64 =>
      ob (kbinI .sub i_50 a_47) fun v65 =>
      ob (kbinI .geq v65 (.int .i64 (.ofNat 2))) fun v66 =>
      ob (kif v66
       (ob (kbinI .sub i_50 (.int .i64 (.ofNat 1))) fun v68 =>
       ob (iterD (fun vs69 ds70 h71 => kv7 vs69 fun data_72 a_73 b_74 cmp_75 i_76 j_77 j_78 =>
        ob (kbinI .geq j_78 (.int .i64 (.ofNat 1))) fun v79 =>
        kif v79
         (ob (kia 6 data_72 j_78) fun v80 =>
         ob (kloadN 6 h71 v80) fun v81 =>
         ob (kbinI .sub j_78 (.int .i64 (.ofNat 1))) fun v82 =>
         ob (kia 6 data_72 v82) fun v83 =>
         ob (kloadN 6 h71 v83) fun v84 =>
         ob (D cmp_75 [v81, v84] h71) fun r85 => kres r85 (fun v86 h87 =>
         ob (kbinI .lss v86 (.int .i64 (.ofNat 0))) fun v90 =>
         ob (aun .not v90) fun v91 =>
         kif v91
          ((some ⟨1, [data_72, a_73, b_74, cmp_75, i_76, j_77], ds70, h87⟩))
          (ob (kbinI .sub j_78 (.int .i64 (.ofNat 1))) fun v92 =>
          ob (kbinI .sub j_78 (.int .i64 (.ofNat 1))) fun v93 =>
          ob (kia 6 data_72 v93) fun v94 =>
          ob (kloadN 6 h87 v94) fun v95 =>
          ob (kia 6 data_72 j_78) fun v96 =>
          ob (kloadN 6 h87 v96) fun v97 =>
          ob (kia 6 data_72 j_78) fun v98 =>
          ob (kstore 6 v98 v95 h87) fun h99 =>
          ob (kia 6 data_72 v92) fun v100 =>
          ob (kstore 6 v100 v97 h99) fun h101 =>
          ob (kbinI .sub j_78 (.int .i64 (.ofNat 1))) fun v102 =>
          (some ⟨0, [data_72, a_73, b_74, cmp_75, i_76, j_77, v102], ds70, h101⟩))) (fun p88 h89 => (some ⟨2, [p88], ds70, h89⟩)))
         ((some ⟨1, [data_72, a_73, b_74, cmp_75, i_76, j_77], ds70, h71⟩))) rounds [data_46, a_47, b_48, cmp_49, i_50, j_51, v68] (J.ds r45) h64) fun r103 => kcase (J.i r103) [kv6 (J.vs r103) fun data_104 a_105 b_106 cmp_107 i_108 j_109 =>
        (some ⟨0, [data_104, a_105, b_106, cmp_107, i_108, j_109], (J.ds r103), (J.h r103)⟩),
       kv1 (J.vs r103) fun p110 => (some ⟨1, [p110], (J.ds r103), (J.h r103)⟩)])
       ((some ⟨0, [data_46, a_47, b_48, cmp_49, i_50, j_51], (J.ds r45), h64⟩))) fun r67 => kcase (J.i r67) [kv6 (J.vs r67) fun data_111 a_112 b_113 cmp_114 i_115 j_116 =>
       ob (kbinI .sub b_113 i_115) fun v117 =>
       ob (kbinI .geq v117 (.int .i64 (.ofNat 2))) fun v118 =>
       ob (kif v118
        (ob (kbinI .add i_115 (.int .i64 (.ofNat 1))) fun v120 =>
        ob (iterD (fun vs121 ds122 h123 => kv7 vs121 fun data_124 a_125 b_126 cmp_127 i_128 j_129 j_130 =>
         ob (kbinI .lss j_130 b_126) fun v131 =>
         kif v131
          (ob (kia 6 data_124 j_130) fun v132 =>
          ob (kloadN 6 h123 v132) fun v133 =>
          ob (kbinI .sub j_130 (.int .i64 (.ofNat 1))) fun v134 =>
          ob (kia 6 data_124 v134) fun v135 =>
          ob (kloadN 6 h123 v135) fun v136 =>
          ob (D cmp_127 [v133, v136] h123) fun r137 => kres r137 (fun v138 h139 =>
          ob (kbinI .lss v138 (.int .i64 (.ofNat 0))) fun v142 =>
          ob (aun .not v142) fun v143 =>
          kif v143
           ((some ⟨1, [data_124, a_125, b_126, cmp_127, i_128, j_129], ds122, h139⟩))
           (ob (kbinI .sub j_130 (.int .i64 (.ofNat 1))) fun v144 =>
           ob (kbinI .sub j_130 (.int .i64 (.ofNat 1))) fun v145 =>
           ob (kia 6 data_124 v145) fun v146 =>
           ob (kloadN 6 h139 v146) fun v147 =>
           ob (kia 6 data_124 j_130) fun v148 =>
           ob (kloadN 6 h139 v148) fun v149 =>
           ob (kia 6 data_124 j_130) fun v150 =>
           ob (kstore 6 v150 v147 h139) fun h151 =>
           ob (kia 6 data_124 v144) fun v152 =>
           ob (kstore 6 v152 v149 h151) fun h153 =>
           ob (kbinI .add j_130 (.int .i64 (.ofNat 1))) fun v154 =>
           (some ⟨0, [data_124, a_125, b_126, cmp_127, i_128, j_129, v154], ds122, h153⟩))) (fun p140 h141 => (some ⟨2, [p140], ds122, h141⟩)))
          ((some ⟨1, [data_124, a_125, b_126, cmp_127, i_128, j_129], ds122, h123⟩))) rounds [data_111, a_112, b_113, cmp_114, i_115, j_116, v120] (J.ds r67) (J.h r67)) fun r155 => kcase (J.i r155) [kv6 (J.vs r155) fun data_156 a_157 b_158 cmp_159 i_160 j_161 =>
         (some ⟨0, [data_156, a_157, b_158, cmp_159, i_160, j_161], (J.ds r155), (J.h r155)⟩),
        kv1 (J.vs r155) fun p162 => (some ⟨1, [p162], (J.ds r155), (J.h r155)⟩)])
        ((some ⟨0, [data_111, a_112, b_113, cmp_114, i_115, j_116], (J.ds r67), (J.h r67)⟩))) fun r119 => kcase (J.i r119) [kv6 (J.vs r119) fun data_163 a_164 b_165 cmp_166 i_167 j_168 =>
        ob (kbinI .add j_168 (.int .i64 (.ofNat 1))) fun v169 =>
        (some ⟨0, [data_163, a_164, b_165, cmp_166, i_167, v169], (J.ds r119), (J.h r119)⟩),
       kv1 (J.vs r119) fun p170 => (some ⟨3, [p170], (J.ds r119), (J.h r119)⟩)],
      kv1 (J.vs r67) fun p171 => (some ⟨3, [p171], (J.ds r67), (J.h r67)⟩)])),
   kv1 (J.vs r45) fun p172 => (some ⟨3, [p172], (J.ds r45), (J.h r45)⟩)])
   ((some ⟨1, [], ds7, h8⟩))) rounds [data_1, a_2, b_3, cmp_4, v5, (.int .i64 (.ofNat 0))] [] h) fun r173 => kcase (J.i r173) [kv0 (J.vs r173) ((dleave (fun h174 => (some (false, (.bool false), h174))) (J.ds r173) (J.h r173))),
 kv1 (J.vs r173) fun v175 =>
  (dleave (fun h176 => (some (false, v175, h176))) (J.ds r173) (J.h r173)),
 kv1 (J.vs r173) fun p177 => (kds (J.ds r173) (some (true, p177, (J.h r173))))]
theorem F55_ok {S : FS} {D : FD} (hS : SpecsOK Tryz.prog S) (hD : DynOK Tryz.prog D) : SpecOK Tryz.prog 55 (F55 S D) :=
  SpecOK.of (c := match Tryz.f55.body with | some c => c | none => .skip) (by kernel_rfl) hS hD ⟨Tryz.func55, rfl, by decide⟩
    (.seq .n (.seq .n (.seq (.seq .n (.one (.loop [0, 1, 2, 3, 9, 10] [(.exit 0, []), (.ret, [8]), (.pan, [])] (.seq (.seq .n (.dup .n .n)) (.seq (.one (.seq (.one (.loop [0, 1, 2, 3, 9, 10] [(.exit 2, [0, 1, 2, 3, 9, 10]), (.pan, [])] (.seq (.seq .n (.dup .n .n)) (.one .n)))) (.seq (.seq .n (.dup (.seq .n .n) .n)) (.seq (.seq .n (.dup (.seq .n .n) .n)) (.seq .n (.seq (.seq .n (.join [(.norm, [0, 1, 2, 3, 9, 10]), (.pan, [])] (.dup (.seq .n (.one (.loop [0, 1, 2, 3, 9, 10, 11] [(.exit 4, [0, 1, 2, 3, 9, 10]), (.pan, [])] (.seq (.seq .n (.dup .n .n)) (.seq (.one (.seq (.seq .n (.dup .n .n)) .n)) .n))))) .n))) (.seq .n (.join [(.norm, [0, 1, 2, 3, 9, 10]), (.pan, [])] (.dup (.seq .n (.one (.loop [0, 1, 2, 3, 9, 10, 12] [(.exit 6, [0, 1, 2, 3, 9, 10]), (.pan, [])] (.seq (.seq .n (.dup .n .n)) (.seq (.one (.seq (.seq .n (.dup .n .n)) .n)) .n))))) .n))))))))) .n))))) (.seq .n .n)))) 4 (fun args h => by kernel_rfl)
end Go.Rh.Tryz
