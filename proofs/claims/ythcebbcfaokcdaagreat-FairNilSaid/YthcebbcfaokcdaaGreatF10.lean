/- Printed by wip/tools/gen.py: functions of the program as plain functions over abstract values, each with its proof. -/
import Derived.Test.YthcebbcfaokcdaaGreatProg
import Derived.Test.YthcebbcfaokcdaaGreatRh3
set_option maxRecDepth 1000000
set_option linter.unusedVariables false
namespace Go.Rh.Tryz
open Go.Proofs
/-- roundhouse/rec.begins$1$1 -/
noncomputable def F342 (S : FS) (D : FD) (args : List AV) (h : Heap) : Option (Bool × AV × Heap) :=
 kv2 args fun x_1 v2 =>
 knt x_1 (Heap.pushK h (.cells (AV.cells x_1) true 192) fun h3 =>
 ob (kfa 5 (.ptr (Heap.next h) 0)) fun v4 =>
 ob (kload h3 v4) fun v5 =>
 ob (S 251 [v5, (.func 343 [v2])] h3) fun r6 => kres r6 (fun v7 h8 =>
 (some (false, v7, h8))) (fun p9 h10 => (some (true, p9, h10))))
theorem F342_ok {S : FS} {D : FD} (hS : SpecsOK Tryz.prog S) (hD : DynOK Tryz.prog D) : SpecOK Tryz.prog 342 (F342 S D) :=
  SpecOK.of (c := match Tryz.f342.body with | some c => c | none => .skip) (by kernel_rfl) hS hD ⟨Tryz.func342, rfl, by decide⟩
    (.seq .n (.seq .n .n)) 2 (fun args h => by kernel_rfl)
/-- roundhouse/rec.begins$1$1$1 -/
noncomputable def F343 (S : FS) (D : FD) (args : List AV) (h : Heap) : Option (Bool × AV × Heap) :=
 kv2 args fun pid_1 v2 =>
 ob (kfa 5 v2) fun v3 =>
 ob (kload h v3) fun v4 =>
 ob (S 153 [v4, pid_1] h) fun r5 => kres r5 (fun v6 h7 =>
 (some (false, v6, h7))) (fun p8 h9 => (some (true, p8, h9)))
theorem F343_ok {S : FS} {D : FD} (hS : SpecsOK Tryz.prog S) (hD : DynOK Tryz.prog D) : SpecOK Tryz.prog 343 (F343 S D) :=
  SpecOK.of (c := match Tryz.f343.body with | some c => c | none => .skip) (by kernel_rfl) hS hD ⟨Tryz.func343, rfl, by decide⟩
    (.seq .n (.seq .n .n)) 2 (fun args h => by kernel_rfl)
/-- roundhouse/rec.turns$1 -/
noncomputable def F344 (S : FS) (D : FD) (args : List AV) (h : Heap) : Option (Bool × AV × Heap) :=
 kv4 args fun s_1 r_2 v3 v4 =>
 knt r_2 (Heap.pushK h (.cells (AV.cells r_2) true 120) fun h5 =>
 ob (knil s_1) fun v6 =>
 ob (kloadN 3 h5 v6) fun v7 =>
 ob (kfa 1 (.ptr (Heap.next h) 0)) fun v8 =>
 ob (kload h5 v8) fun v9 =>
 ob (kfa 2 (.ptr (Heap.next h) 0)) fun v10 =>
 ob (kload h5 v10) fun v11 =>
 ob (kfa 3 (.ptr (Heap.next h) 0)) fun v12 =>
 ob (kload h5 v12) fun v13 =>
 ob (S 237 [v7, v9, v11, v13] h5) fun r14 => kres r14 (fun v15 h16 =>
 ob (kbinI .lss v15 (.int .i64 (.ofNat 0))) fun v19 =>
 ob (kgv false v19 (some s_1)) fun v20 =>
 ob (kgv false v19 (knil v20)) fun v21 =>
 ob (kgv false v19 (kfa 1 v21)) fun v22 =>
 ob (kgv false v19 (kload h16 v22)) fun v23 =>
 ob (kgv false v19 (some v15)) fun v24 =>
 ob (kgv false v19 (kia 6 v23 v24)) fun v25 =>
 ob (kgv false v19 (kfa 3 v25)) fun v26 =>
 ob (kgv false v19 (kload h16 v26)) fun v27 =>
 ob (kgv false v19 (kload h16 v3)) fun v28 =>
 ob (kgv false v19 (kbinI .neq v27 v28)) fun v29 =>
 ob (kpick v19 (.bool true) v29) fun v30 =>
 kif v30
  ((some (false, (.int .i64 (.ofNat 14)), h16)))
  (ob (knil s_1) fun v31 =>
  ob (kfa 1 v31) fun v32 =>
  ob (kload h16 v32) fun v33 =>
  ob (kload h16 v4) fun v34 =>
  ob (kia 6 v33 v15) fun v35 =>
  ob (kfa 3 v35) fun v36 =>
  ob (kstore 1 v36 v34 h16) fun h37 =>
  ob (kload h37 v4) fun v38 =>
  ob (kbinI .eql v38 (.int .i64 (.ofNat 3))) fun v39 =>
  ob (kif v39
   (ob (knil s_1) fun v41 =>
   ob (kfa 1 v41) fun v42 =>
   ob (kload h37 v42) fun v43 =>
   ob (kfa 4 (.ptr (Heap.next h) 0)) fun v44 =>
   ob (kload h37 v44) fun v45 =>
   ob (kia 6 v43 v15) fun v46 =>
   ob (kfa 4 v46) fun v47 =>
   ob (kstore 1 v47 v45 h37) fun h48 =>
   (some ⟨0, [], [], h48⟩))
   ((some ⟨0, [], [], h37⟩))) fun r40 => kcase (J.i r40) [kv0 (J.vs r40) ((dleave (fun h49 => (some (false, (.int .i64 (.ofNat 0)), h49))) (J.ds r40) (J.h r40)))])) (fun p17 h18 => (some (true, p17, h18))))
theorem F344_ok {S : FS} {D : FD} (hS : SpecsOK Tryz.prog S) (hD : DynOK Tryz.prog D) : SpecOK Tryz.prog 344 (F344 S D) :=
  SpecOK.of (c := match Tryz.f344.body with | some c => c | none => .skip) (by kernel_rfl) hS hD ⟨Tryz.func344, rfl, by decide⟩
    (.seq .n (.seq .n (.seq (.seq .n (.dup (.seq .n .n) .n)) (.seq .n (.seq (.seq .n (.join [(.norm, [])] (.dup .n .n))) (.seq .n .n)))))) 4 (fun args h => by kernel_rfl)
/-- roundhouse/mask.All -/
noncomputable def F345 (S : FS) (D : FD) (args : List AV) (h : Heap) : Option (Bool × AV × Heap) :=
 kv1 args fun n_1 =>
 Heap.pushK h (.cells [(.int .u64 (.ofNat 0)), (.int .u64 (.ofNat 0)), (.int .u64 (.ofNat 0)), (.int .u64 (.ofNat 0))] true 287) fun h2 =>
 Heap.pushK h2 (.cells [(.int .u64 (.ofNat 0)), (.int .u64 (.ofNat 0)), (.int .u64 (.ofNat 0)), (.int .u64 (.ofNat 0))] true 287) fun h3 =>
 ob (kbinI .lss n_1 (.int .i64 (.ofNat 0))) fun v4 =>
 ob (kgv false v4 (some n_1)) fun v5 =>
 ob (kgv false v4 (kbinI .gtr v5 (.int .i64 (.ofNat 256)))) fun v6 =>
 ob (kpick v4 (.bool true) v6) fun v7 =>
 kif v7
  (ob (kloadN 4 h3 (.ptr (Heap.next h2) 0)) fun v8 =>
  ob (kstore 4 (.ptr (Heap.next h) 0) v8 h3) fun h9 =>
  ob (kloadN 4 h9 (.ptr (Heap.next h) 0)) fun v10 => (some (false, (.tuple [v10, (.int .i64 (.ofNat 1))]), h9)))
  (ob (iterD (fun vs11 ds12 h13 => kv4 vs11 fun v14 m_15 v16 v17 =>
   ob (kbinI .lss v17 v16) fun v18 =>
   kif v18
    (ob (kloadN 4 h13 m_15) fun v19 =>
    ob (S 243 [v19, v17] h13) fun r20 => kres r20 (fun v21 h22 =>
    ob (kstore 4 m_15 v21 h22) fun h25 =>
    ob (kbinI .add v17 (.int .i64 (.ofNat 1))) fun v26 =>
    (some ⟨0, [v14, m_15, v16, v26], ds12, h25⟩)) (fun p23 h24 => (some ⟨2, [p23], ds12, h24⟩)))
    ((some ⟨1, [v14, m_15], ds12, h13⟩))) rounds [(.ptr (Heap.next h) 0), (.ptr (Heap.next h2) 0), n_1, (.int .i64 (.ofNat 0))] [] h3) fun r27 => kcase (J.i r27) [kv2 (J.vs r27) fun v28 m_29 =>
   ob (kloadN 4 (J.h r27) m_29) fun v30 =>
   ob (kstore 4 v28 v30 (J.h r27)) fun h31 =>
   (dleave (fun h32 => ob (kloadN 4 h32 v28) fun v33 => (some (false, (.tuple [v33, (.int .i64 (.ofNat 0))]), h32))) (J.ds r27) h31),
  kv1 (J.vs r27) fun p34 => (kds (J.ds r27) (some (true, p34, (J.h r27))))])
theorem F345_ok {S : FS} {D : FD} (hS : SpecsOK Tryz.prog S) (hD : DynOK Tryz.prog D) : SpecOK Tryz.prog 345 (F345 S D) :=
  SpecOK.of (c := match Tryz.f345.body with | some c => c | none => .skip) (by kernel_rfl) hS hD ⟨Tryz.func345, rfl, by decide⟩
    (.seq .n (.seq .n (.seq (.seq .n (.dup (.seq .n .n) .n)) (.seq (.seq .n (.one (.loop [2, 4, 13, 14] [(.exit 0, [2, 4]), (.pan, [])] (.seq .n (.seq (.dup .n .n) (.seq (.one (.seq .n .n)) .n)))))) (.seq .n .n))))) 1 (fun args h => by kernel_rfl)
/-- (roundhouse/cores.Layout).count -/
noncomputable def F346 (S : FS) (D : FD) (args : List AV) (h : Heap) : Option (Bool × AV × Heap) :=
 kv1 args fun l_1 =>
 knt l_1 (Heap.pushK h (.cells (AV.cells l_1) true 54) fun h2 =>
 ob (kloadN 2 h2 (.ptr (Heap.next h) 0)) fun v3 =>
 ob (S 84 [v3] h2) fun r4 => kres r4 (fun v5 h6 =>
 ob (aun .not v5) fun v9 =>
 kif v9
  ((some (false, (.int .i64 (.ofNat 0)), h6)))
  (ob (kfa 0 (.ptr (Heap.next h) 0)) fun v10 =>
  ob (kload h6 v10) fun v11 =>
  ob (kfa 1 (.ptr (Heap.next h) 0)) fun v12 =>
  ob (kload h6 v12) fun v13 =>
  ob (kbinI .mul v11 v13) fun v14 =>
  (some (false, v14, h6)))) (fun p7 h8 => (some (true, p7, h8))))
theorem F346_ok {S : FS} {D : FD} (hS : SpecsOK Tryz.prog S) (hD : DynOK Tryz.prog D) : SpecOK Tryz.prog 346 (F346 S D) :=
  SpecOK.of (c := match Tryz.f346.body with | some c => c | none => .skip) (by kernel_rfl) hS hD ⟨Tryz.func346, rfl, by decide⟩
    (.seq .n (.seq (.seq .n (.dup (.seq .n .n) .n)) (.seq .n .n))) 1 (fun args h => by kernel_rfl)
/-- roundhouse/sha.schedule -/
noncomputable def F347 (S : FS) (D : FD) (args : List AV) (h : Heap) : Option (Bool × AV × Heap) :=
 kv1 args fun b_1 =>
 Heap.pushK h (.cells [(.int .u32 (.ofNat 0)), (.int .u32 (.ofNat 0)), (.int .u32 (.ofNat 0)), (.int .u32 (.ofNat 0)), (.int .u32 (.ofNat 0)), (.int .u32 (.ofNat 0)), (.int .u32 (.ofNat 0)), (.int .u32 (.ofNat 0)), (.int .u32 (.ofNat 0)), (.int .u32 (.ofNat 0)), (.int .u32 (.ofNat 0)), (.int .u32 (.ofNat 0)), (.int .u32 (.ofNat 0)), (.int .u32 (.ofNat 0)), (.int .u32 (.ofNat 0)), (.int .u32 (.ofNat 0)), (.int .u32 (.ofNat 0)), (.int .u32 (.ofNat 0)), (.int .u32 (.ofNat 0)), (.int .u32 (.ofNat 0)), (.int .u32 (.ofNat 0)), (.int .u32 (.ofNat 0)), (.int .u32 (.ofNat 0)), (.int .u32 (.ofNat 0)), (.int .u32 (.ofNat 0)), (.int .u32 (.ofNat 0)), (.int .u32 (.ofNat 0)), (.int .u32 (.ofNat 0)), (.int .u32 (.ofNat 0)), (.int .u32 (.ofNat 0)), (.int .u32 (.ofNat 0)), (.int .u32 (.ofNat 0)), (.int .u32 (.ofNat 0)), (.int .u32 (.ofNat 0)), (.int .u32 (.ofNat 0)), (.int .u32 (.ofNat 0)), (.int .u32 (.ofNat 0)), (.int .u32 (.ofNat 0)), (.int .u32 (.ofNat 0)), (.int .u32 (.ofNat 0)), (.int .u32 (.ofNat 0)), (.int .u32 (.ofNat 0)), (.int .u32 (.ofNat 0)), (.int .u32 (.ofNat 0)), (.int .u32 (.ofNat 0)), (.int .u32 (.ofNat 0)), (.int .u32 (.ofNat 0)), (.int .u32 (.ofNat 0)), (.int .u32 (.ofNat 0)), (.int .u32 (.ofNat 0)), (.int .u32 (.ofNat 0)), (.int .u32 (.ofNat 0)), (.int .u32 (.ofNat 0)), (.int .u32 (.ofNat 0)), (.int .u32 (.ofNat 0)), (.int .u32 (.ofNat 0)), (.int .u32 (.ofNat 0)), (.int .u32 (.ofNat 0)), (.int .u32 (.ofNat 0)), (.int .u32 (.ofNat 0)), (.int .u32 (.ofNat 0)), (.int .u32 (.ofNat 0)), (.int .u32 (.ofNat 0)), (.int .u32 (.ofNat 0))] true 455) fun h2 =>
 Heap.pushK h2 (.cells [(.int .u32 (.ofNat 0)), (.int .u32 (.ofNat 0)), (.int .u32 (.ofNat 0)), (.int .u32 (.ofNat 0)), (.int .u32 (.ofNat 0)), (.int .u32 (.ofNat 0)), (.int .u32 (.ofNat 0)), (.int .u32 (.ofNat 0)), (.int .u32 (.ofNat 0)), (.int .u32 (.ofNat 0)), (.int .u32 (.ofNat 0)), (.int .u32 (.ofNat 0)), (.int .u32 (.ofNat 0)), (.int .u32 (.ofNat 0)), (.int .u32 (.ofNat 0)), (.int .u32 (.ofNat 0)), (.int .u32 (.ofNat 0)), (.int .u32 (.ofNat 0)), (.int .u32 (.ofNat 0)), (.int .u32 (.ofNat 0)), (.int .u32 (.ofNat 0)), (.int .u32 (.ofNat 0)), (.int .u32 (.ofNat 0)), (.int .u32 (.ofNat 0)), (.int .u32 (.ofNat 0)), (.int .u32 (.ofNat 0)), (.int .u32 (.ofNat 0)), (.int .u32 (.ofNat 0)), (.int .u32 (.ofNat 0)), (.int .u32 (.ofNat 0)), (.int .u32 (.ofNat 0)), (.int .u32 (.ofNat 0)), (.int .u32 (.ofNat 0)), (.int .u32 (.ofNat 0)), (.int .u32 (.ofNat 0)), (.int .u32 (.ofNat 0)), (.int .u32 (.ofNat 0)), (.int .u32 (.ofNat 0)), (.int .u32 (.ofNat 0)), (.int .u32 (.ofNat 0)), (.int .u32 (.ofNat 0)), (.int .u32 (.ofNat 0)), (.int .u32 (.ofNat 0)), (.int .u32 (.ofNat 0)), (.int .u32 (.ofNat 0)), (.int .u32 (.ofNat 0)), (.int .u32 (.ofNat 0)), (.int .u32 (.ofNat 0)), (.int .u32 (.ofNat 0)), (.int .u32 (.ofNat 0)), (.int .u32 (.ofNat 0)), (.int .u32 (.ofNat 0)), (.int .u32 (.ofNat 0)), (.int .u32 (.ofNat 0)), (.int .u32 (.ofNat 0)), (.int .u32 (.ofNat 0)), (.int .u32 (.ofNat 0)), (.int .u32 (.ofNat 0)), (.int .u32 (.ofNat 0)), (.int .u32 (.ofNat 0)), (.int .u32 (.ofNat 0)), (.int .u32 (.ofNat 0)), (.int .u32 (.ofNat 0)), (.int .u32 (.ofNat 0))] true 455) fun h3 =>
 ob (iterD (fun vs4 ds5 h6 => kv4 vs4 fun b_7 v8 w_9 v10 =>
  ob (kbinI .lss v10 (.int .i64 (.ofNat 16))) fun v11 =>
  kif v11
   (ob (kbinI .mul (.int .i64 (.ofNat 4)) v10) fun v12 =>
   ob (kia 1 b_7 v12) fun v13 =>
   ob (kload h6 v13) fun v14 =>
   ob (kconvI .u32 v14) fun v15 =>
   ob (kbinI .shl v15 (.int .u64 (.ofNat 24))) fun v16 =>
   ob (kbinI .mul (.int .i64 (.ofNat 4)) v10) fun v17 =>
   ob (kbinI .add v17 (.int .i64 (.ofNat 1))) fun v18 =>
   ob (kia 1 b_7 v18) fun v19 =>
   ob (kload h6 v19) fun v20 =>
   ob (kconvI .u32 v20) fun v21 =>
   ob (kbinI .shl v21 (.int .u64 (.ofNat 16))) fun v22 =>
   ob (kbinI .or v16 v22) fun v23 =>
   ob (kbinI .mul (.int .i64 (.ofNat 4)) v10) fun v24 =>
   ob (kbinI .add v24 (.int .i64 (.ofNat 2))) fun v25 =>
   ob (kia 1 b_7 v25) fun v26 =>
   ob (kload h6 v26) fun v27 =>
   ob (kconvI .u32 v27) fun v28 =>
   ob (kbinI .shl v28 (.int .u64 (.ofNat 8))) fun v29 =>
   ob (kbinI .or v23 v29) fun v30 =>
   ob (kbinI .mul (.int .i64 (.ofNat 4)) v10) fun v31 =>
   ob (kbinI .add v31 (.int .i64 (.ofNat 3))) fun v32 =>
   ob (kia 1 b_7 v32) fun v33 =>
   ob (kload h6 v33) fun v34 =>
   ob (kconvI .u32 v34) fun v35 =>
   ob (kbinI .or v30 v35) fun v36 =>
   ob (kiaA 64 1 w_9 v10) fun v37 =>
   ob (kstore 1 v37 v36 h6) fun h38 =>
   ob (kbinI .add v10 (.int .i64 (.ofNat 1))) fun v39 =>
   (some ⟨0, [b_7, v8, w_9, v39], ds5, h38⟩))
   ((some ⟨1, [v8, w_9], ds5, h6⟩))) rounds [b_1, (.ptr (Heap.next h) 0), (.ptr (Heap.next h2) 0), (.int .i64 (.ofNat 0))] [] h3) fun r40 => kcase (J.i r40) [kv2 (J.vs r40) fun v41 w_42 =>
  ob (iterD (fun vs43 ds44 h45 => kv3 vs43 fun v46 w_47 i_48 =>
   ob (kbinI .lss i_48 (.int .i64 (.ofNat 64))) fun v49 =>
   kif v49
    (ob (kbinI .sub i_48 (.int .i64 (.ofNat 15))) fun v50 =>
    ob (kiaA 64 1 w_47 v50) fun v51 =>
    ob (kload h45 v51) fun v52 =>
    ob (kbinI .sub i_48 (.int .i64 (.ofNat 2))) fun v53 =>
    ob (kiaA 64 1 w_47 v53) fun v54 =>
    ob (kload h45 v54) fun v55 =>
    ob (kbinI .sub i_48 (.int .i64 (.ofNat 16))) fun v56 =>
    ob (kiaA 64 1 w_47 v56) fun v57 =>
    ob (kload h45 v57) fun v58 =>
    ob (kbinI .shr v52 (.int .u64 (.ofNat 3))) fun v59 =>
    ob (kbinI .sub i_48 (.int .i64 (.ofNat 7))) fun v60 =>
    ob (kiaA 64 1 w_47 v60) fun v61 =>
    ob (kload h45 v61) fun v62 =>
    ob (kbinI .shr v55 (.int .u64 (.ofNat 10))) fun v63 =>
    ob (S 349 [v52, (.int .u64 (.ofNat 7))] h45) fun r64 => kres r64 (fun v65 h66 =>
    kre (kload h66 v61) v62 (kre (kload h66 v57) v58 (ob (S 349 [v52, (.int .u64 (.ofNat 18))] h66) fun r69 => kres r69 (fun v70 h71 =>
    kre (kload h71 v61) v62 (kre (kload h71 v57) v58 (ob (kbinI .xor v65 v70) fun v74 =>
    ob (kbinI .xor v74 v59) fun v75 =>
    ob (kbinI .add v58 v75) fun v76 =>
    ob (kbinI .add v76 v62) fun v77 =>
    ob (S 349 [v55, (.int .u64 (.ofNat 17))] h71) fun r78 => kres r78 (fun v79 h80 =>
    kre (kload h80 v61) v62 (kre (kload h80 v57) v58 (ob (S 349 [v55, (.int .u64 (.ofNat 19))] h80) fun r83 => kres r83 (fun v84 h85 =>
    kre (kload h85 v61) v62 (kre (kload h85 v57) v58 (ob (kbinI .xor v79 v84) fun v88 =>
    ob (kbinI .xor v88 v63) fun v89 =>
    ob (kbinI .add v77 v89) fun v90 =>
    ob (kiaA 64 1 w_47 i_48) fun v91 =>
    ob (kstore 1 v91 v90 h85) fun h92 =>
    ob (kbinI .add i_48 (.int .i64 (.ofNat 1))) fun v93 =>
    (some ⟨0, [v46, w_47, v93], ds44, h92⟩)))) (fun p86 h87 => none)))) (fun p81 h82 => none)))) (fun p72 h73 => none)))) (fun p67 h68 => none))
    ((some ⟨1, [v46, w_47], ds44, h45⟩))) rounds [v41, w_42, (.int .i64 (.ofNat 16))] (J.ds r40) (J.h r40)) fun r94 => kcase (J.i r94) [kv2 (J.vs r94) fun v95 w_96 =>
   ob (kloadN 64 (J.h r94) w_96) fun v97 =>
   ob (kstore 64 v95 v97 (J.h r94)) fun h98 =>
   (dleave (fun h99 => ob (kloadN 64 h99 v95) fun v100 => (some (false, v100, h99))) (J.ds r94) h98),
  kv1 (J.vs r94) fun p101 => (kds (J.ds r94) (some (true, p101, (J.h r94))))]]
theorem F347_ok {S : FS} {D : FD} (hS : SpecsOK Tryz.prog S) (hD : DynOK Tryz.prog D) : SpecOK Tryz.prog 347 (F347 S D) :=
  SpecOK.of (c := match Tryz.f347.body with | some c => c | none => .skip) (by kernel_rfl) hS hD ⟨Tryz.func347, rfl, by decide⟩
    (.seq .n (.seq .n (.seq (.seq .n (.one (.loop [0, 2, 3, 8] [(.exit 0, [2, 3])] (.seq .n (.seq (.dup .n .n) (.seq (.one (.seq .n .n)) .n)))))) (.seq (.seq .n (.one (.loop [2, 3, 5] [(.exit 2, [2, 3]), (.pan, [])] (.seq (.seq .n (.dup .n .n)) (.seq (.one (.seq .n .n)) .n))))) (.seq .n .n))))) 1 (fun args h => by kernel_rfl)
/-- roundhouse/sha.constants -/
noncomputable def F348 (S : FS) (D : FD) (args : List AV) (h : Heap) : Option (Bool × AV × Heap) :=
 kv0 args (Heap.pushK h (.cells [(.int .u32 (.ofNat 0)), (.int .u32 (.ofNat 0)), (.int .u32 (.ofNat 0)), (.int .u32 (.ofNat 0)), (.int .u32 (.ofNat 0)), (.int .u32 (.ofNat 0)), (.int .u32 (.ofNat 0)), (.int .u32 (.ofNat 0)), (.int .u32 (.ofNat 0)), (.int .u32 (.ofNat 0)), (.int .u32 (.ofNat 0)), (.int .u32 (.ofNat 0)), (.int .u32 (.ofNat 0)), (.int .u32 (.ofNat 0)), (.int .u32 (.ofNat 0)), (.int .u32 (.ofNat 0)), (.int .u32 (.ofNat 0)), (.int .u32 (.ofNat 0)), (.int .u32 (.ofNat 0)), (.int .u32 (.ofNat 0)), (.int .u32 (.ofNat 0)), (.int .u32 (.ofNat 0)), (.int .u32 (.ofNat 0)), (.int .u32 (.ofNat 0)), (.int .u32 (.ofNat 0)), (.int .u32 (.ofNat 0)), (.int .u32 (.ofNat 0)), (.int .u32 (.ofNat 0)), (.int .u32 (.ofNat 0)), (.int .u32 (.ofNat 0)), (.int .u32 (.ofNat 0)), (.int .u32 (.ofNat 0)), (.int .u32 (.ofNat 0)), (.int .u32 (.ofNat 0)), (.int .u32 (.ofNat 0)), (.int .u32 (.ofNat 0)), (.int .u32 (.ofNat 0)), (.int .u32 (.ofNat 0)), (.int .u32 (.ofNat 0)), (.int .u32 (.ofNat 0)), (.int .u32 (.ofNat 0)), (.int .u32 (.ofNat 0)), (.int .u32 (.ofNat 0)), (.int .u32 (.ofNat 0)), (.int .u32 (.ofNat 0)), (.int .u32 (.ofNat 0)), (.int .u32 (.ofNat 0)), (.int .u32 (.ofNat 0)), (.int .u32 (.ofNat 0)), (.int .u32 (.ofNat 0)), (.int .u32 (.ofNat 0)), (.int .u32 (.ofNat 0)), (.int .u32 (.ofNat 0)), (.int .u32 (.ofNat 0)), (.int .u32 (.ofNat 0)), (.int .u32 (.ofNat 0)), (.int .u32 (.ofNat 0)), (.int .u32 (.ofNat 0)), (.int .u32 (.ofNat 0)), (.int .u32 (.ofNat 0)), (.int .u32 (.ofNat 0)), (.int .u32 (.ofNat 0)), (.int .u32 (.ofNat 0)), (.int .u32 (.ofNat 0))] true 455) fun h1 =>
 ob (abuild Tryz.prog 455 [(0, (.int .u32 (.ofNat 1116352408))), (1, (.int .u32 (.ofNat 1899447441))), (2, (.int .u32 (.ofNat 3049323471))), (3, (.int .u32 (.ofNat 3921009573))), (4, (.int .u32 (.ofNat 961987163))), (5, (.int .u32 (.ofNat 1508970993))), (6, (.int .u32 (.ofNat 2453635748))), (7, (.int .u32 (.ofNat 2870763221))), (8, (.int .u32 (.ofNat 3624381080))), (9, (.int .u32 (.ofNat 310598401))), (10, (.int .u32 (.ofNat 607225278))), (11, (.int .u32 (.ofNat 1426881987))), (12, (.int .u32 (.ofNat 1925078388))), (13, (.int .u32 (.ofNat 2162078206))), (14, (.int .u32 (.ofNat 2614888103))), (15, (.int .u32 (.ofNat 3248222580))), (16, (.int .u32 (.ofNat 3835390401))), (17, (.int .u32 (.ofNat 4022224774))), (18, (.int .u32 (.ofNat 264347078))), (19, (.int .u32 (.ofNat 604807628))), (20, (.int .u32 (.ofNat 770255983))), (21, (.int .u32 (.ofNat 1249150122))), (22, (.int .u32 (.ofNat 1555081692))), (23, (.int .u32 (.ofNat 1996064986))), (24, (.int .u32 (.ofNat 2554220882))), (25, (.int .u32 (.ofNat 2821834349))), (26, (.int .u32 (.ofNat 2952996808))), (27, (.int .u32 (.ofNat 3210313671))), (28, (.int .u32 (.ofNat 3336571891))), (29, (.int .u32 (.ofNat 3584528711))), (30, (.int .u32 (.ofNat 113926993))), (31, (.int .u32 (.ofNat 338241895))), (32, (.int .u32 (.ofNat 666307205))), (33, (.int .u32 (.ofNat 773529912))), (34, (.int .u32 (.ofNat 1294757372))), (35, (.int .u32 (.ofNat 1396182291))), (36, (.int .u32 (.ofNat 1695183700))), (37, (.int .u32 (.ofNat 1986661051))), (38, (.int .u32 (.ofNat 2177026350))), (39, (.int .u32 (.ofNat 2456956037))), (40, (.int .u32 (.ofNat 2730485921))), (41, (.int .u32 (.ofNat 2820302411))), (42, (.int .u32 (.ofNat 3259730800))), (43, (.int .u32 (.ofNat 3345764771))), (44, (.int .u32 (.ofNat 3516065817))), (45, (.int .u32 (.ofNat 3600352804))), (46, (.int .u32 (.ofNat 4094571909))), (47, (.int .u32 (.ofNat 275423344))), (48, (.int .u32 (.ofNat 430227734))), (49, (.int .u32 (.ofNat 506948616))), (50, (.int .u32 (.ofNat 659060556))), (51, (.int .u32 (.ofNat 883997877))), (52, (.int .u32 (.ofNat 958139571))), (53, (.int .u32 (.ofNat 1322822218))), (54, (.int .u32 (.ofNat 1537002063))), (55, (.int .u32 (.ofNat 1747873779))), (56, (.int .u32 (.ofNat 1955562222))), (57, (.int .u32 (.ofNat 2024104815))), (58, (.int .u32 (.ofNat 2227730452))), (59, (.int .u32 (.ofNat 2361852424))), (60, (.int .u32 (.ofNat 2428436474))), (61, (.int .u32 (.ofNat 2756734187))), (62, (.int .u32 (.ofNat 3204031479))), (63, (.int .u32 (.ofNat 3329325298)))]) fun v2 =>
 ob (kstore 64 (.ptr (Heap.next h) 0) v2 h1) fun h3 =>
 ob (kloadN 64 h3 (.ptr (Heap.next h) 0)) fun v4 => (some (false, v4, h3)))
theorem F348_ok {S : FS} {D : FD} (hS : SpecsOK Tryz.prog S) (hD : DynOK Tryz.prog D) : SpecOK Tryz.prog 348 (F348 S D) :=
  SpecOK.of (c := match Tryz.f348.body with | some c => c | none => .skip) (by kernel_rfl) hS hD ⟨Tryz.func348, rfl, by decide⟩
    (.seq .n (.seq .n .n)) 0 (fun args h => by kernel_rfl)
/-- roundhouse/sha.rot -/
noncomputable def F349 (S : FS) (D : FD) (args : List AV) (h : Heap) : Option (Bool × AV × Heap) :=
 kv2 args fun x_1 n_2 =>
 ob (kbinI .shr x_1 n_2) fun v3 =>
 ob (kbinI .sub (.int .u64 (.ofNat 32)) n_2) fun v4 =>
 ob (kbinI .shl x_1 v4) fun v5 =>
 ob (kbinI .or v3 v5) fun v6 =>
 (some (false, v6, h))
theorem F349_ok {S : FS} {D : FD} (hS : SpecsOK Tryz.prog S) (hD : DynOK Tryz.prog D) : SpecOK Tryz.prog 349 (F349 S D) :=
  SpecOK.of (c := match Tryz.f349.body with | some c => c | none => .skip) (by kernel_rfl) hS hD ⟨Tryz.func349, rfl, by decide⟩
    (.seq .n (.seq .n .n)) 2 (fun args h => by kernel_rfl)
/-- slices.order2Ordered[int] -/
noncomputable def F350 (S : FS) (D : FD) (args : List AV) (h : Heap) : Option (Bool × AV × Heap) :=
 kv4 args fun data_1 a_2 b_3 swaps_4 =>
 ob (kia 1 data_1 b_3) fun v5 =>
 ob (kload h v5) fun v6 =>
 ob (kia 1 data_1 a_2) fun v7 =>
 ob (kload h v7) fun v8 =>
 ob (S 267 [v6, v8] h) fun r9 => kres r9 (fun v10 h11 =>
 kif v10
  (ob (knil swaps_4) fun v14 =>
  ob (kload h11 v14) fun v15 =>
  ob (kbinI .add v15 (.int .i64 (.ofNat 1))) fun v16 =>
  ob (knil swaps_4) fun v17 =>
  ob (kstore 1 v17 v16 h11) fun h18 =>
  (some (false, (.tuple [b_3, a_2]), h18)))
  ((some (false, (.tuple [a_2, b_3]), h11)))) (fun p12 h13 => (some (true, p12, h13)))
theorem F350_ok {S : FS} {D : FD} (hS : SpecsOK Tryz.prog S) (hD : DynOK Tryz.prog D) : SpecOK Tryz.prog 350 (F350 S D) :=
  SpecOK.of (c := match Tryz.f350.body with | some c => c | none => .skip) (by kernel_rfl) hS hD ⟨Tryz.func350, rfl, by decide⟩
    (.seq .n (.seq (.seq .n (.dup (.seq .n (.seq .n .n)) .n)) (.seq .n .n))) 4 (fun args h => by kernel_rfl)
/-- slices.IndexFunc[[]roundhouse/rec.Job,roundhouse/rec.Job] -/
noncomputable def F351 (S : FS) (D : FD) (args : List AV) (h : Heap) : Option (Bool × AV × Heap) :=
 kv2 args fun s_1 f_2 =>
 ob (klenL s_1) fun v3 =>
 ob (iterD (fun vs4 ds5 h6 => kv4 vs4 fun s_7 f_8 v9 v10 =>
  ob (kbinI .lss v10 v9) fun v11 =>
  kif v11
   (ob (kia 3 s_7 v10) fun v12 =>
   ob (kloadN 3 h6 v12) fun v13 =>
   ob (D f_8 [v13] h6) fun r14 => kres r14 (fun v15 h16 =>
   kif v15
    ((some ⟨2, [v10], ds5, h16⟩))
    (ob (kbinI .add v10 (.int .i64 (.ofNat 1))) fun v19 =>
    (some ⟨0, [s_7, f_8, v9, v19], ds5, h16⟩))) (fun p17 h18 => (some ⟨3, [p17], ds5, h18⟩)))
   ((some ⟨1, [], ds5, h6⟩))) rounds [s_1, f_2, v3, (.int .i64 (.ofNat 0))] [] h) fun r20 => kcase (J.i r20) [kv0 (J.vs r20) ((dleave (fun h21 => (some (false, (.int .i64 (.negSucc 0)), h21))) (J.ds r20) (J.h r20))),
 kv1 (J.vs r20) fun v22 =>
  (dleave (fun h23 => (some (false, v22, h23))) (J.ds r20) (J.h r20)),
 kv1 (J.vs r20) fun p24 => (kds (J.ds r20) (some (true, p24, (J.h r20))))]
theorem F351_ok {S : FS} {D : FD} (hS : SpecsOK Tryz.prog S) (hD : DynOK Tryz.prog D) : SpecOK Tryz.prog 351 (F351 S D) :=
  SpecOK.of (c := match Tryz.f351.body with | some c => c | none => .skip) (by kernel_rfl) hS hD ⟨Tryz.func351, rfl, by decide⟩
    (.seq .n (.seq (.seq .n (.one (.loop [0, 1, 7, 8] [(.exit 0, []), (.ret, [4]), (.pan, [])] (.seq .n (.seq (.dup .n .n) (.seq (.one (.seq .n (.seq .n (.dup (.seq .n .n) .n)))) .n)))))) (.seq .n .n))) 2 (fun args h => by kernel_rfl)
/-- (roundhouse/rec.State).job$1 -/
noncomputable def F352 (S : FS) (D : FD) (args : List AV) (h : Heap) : Option (Bool × AV × Heap) :=
 kv3 args fun x_1 v2 v3 =>
 knt x_1 (Heap.pushK h (.cells (AV.cells x_1) true 328) fun h4 =>
 ob (kfa 0 (.ptr (Heap.next h) 0)) fun v5 =>
 ob (kload h4 v5) fun v6 =>
 ob (kload h4 v2) fun v7 =>
 ob (kbinI .eql v6 v7) fun v8 =>
 ob (kgv true v8 (kfa 1 (.ptr (Heap.next h) 0))) fun v9 =>
 ob (kgv true v8 (kload h4 v9)) fun v10 =>
 ob (kgv true v8 (kload h4 v3)) fun v11 =>
 ob (kgv true v8 (kbinI .eql v10 v11)) fun v12 =>
 ob (kpick v8 v12 (.bool false)) fun v13 =>
 (some (false, v13, h4)))
theorem F352_ok {S : FS} {D : FD} (hS : SpecsOK Tryz.prog S) (hD : DynOK Tryz.prog D) : SpecOK Tryz.prog 352 (F352 S D) :=
  SpecOK.of (c := match Tryz.f352.body with | some c => c | none => .skip) (by kernel_rfl) hS hD ⟨Tryz.func352, rfl, by decide⟩
    (.seq .n (.seq .n .n)) 3 (fun args h => by kernel_rfl)
/-- roundhouse/cores.block -/
noncomputable def F353 (S : FS) (D : FD) (args : List AV) (h : Heap) : Option (Bool × AV × Heap) :=
 kv1 args fun l_1 =>
 knt l_1 (Heap.pushK h (.cells (AV.cells l_1) true 54) fun h2 =>
 (some (false, (.func 358 [(.ptr (Heap.next h) 0)]), h2)))
theorem F353_ok {S : FS} {D : FD} (hS : SpecsOK Tryz.prog S) (hD : DynOK Tryz.prog D) : SpecOK Tryz.prog 353 (F353 S D) :=
  SpecOK.of (c := match Tryz.f353.body with | some c => c | none => .skip) (by kernel_rfl) hS hD ⟨Tryz.func353, rfl, by decide⟩
    (.seq .n (.seq .n .n)) 1 (fun args h => by kernel_rfl)
/-- roundhouse/cores.cyclic -/
noncomputable def F354 (S : FS) (D : FD) (args : List AV) (h : Heap) : Option (Bool × AV × Heap) :=
 kv1 args fun l_1 =>
 knt l_1 (Heap.pushK h (.cells (AV.cells l_1) true 54) fun h2 =>
 (some (false, (.func 359 [(.ptr (Heap.next h) 0)]), h2)))
theorem F354_ok {S : FS} {D : FD} (hS : SpecsOK Tryz.prog S) (hD : DynOK Tryz.prog D) : SpecOK Tryz.prog 354 (F354 S D) :=
  SpecOK.of (c := match Tryz.f354.body with | some c => c | none => .skip) (by kernel_rfl) hS hD ⟨Tryz.func354, rfl, by decide⟩
    (.seq .n (.seq .n .n)) 1 (fun args h => by kernel_rfl)
/-- roundhouse/procs.number -/
noncomputable def F355 (S : FS) (D : FD) (args : List AV) (h : Heap) : Option (Bool × AV × Heap) :=
 kv1 args fun n_1 =>
 ob (kbinI .geq n_1 (.int .i64 (.ofNat 0))) fun v2 =>
 ob (kgv true v2 (some n_1)) fun v3 =>
 ob (kgv true v2 (kbinI .leq v3 (.int .i64 (.ofNat 1099511627776)))) fun v4 =>
 ob (kpick v2 v4 (.bool false)) fun v5 =>
 (some (false, v5, h))
theorem F355_ok {S : FS} {D : FD} (hS : SpecsOK Tryz.prog S) (hD : DynOK Tryz.prog D) : SpecOK Tryz.prog 355 (F355 S D) :=
  SpecOK.of (c := match Tryz.f355.body with | some c => c | none => .skip) (by kernel_rfl) hS hD ⟨Tryz.func355, rfl, by decide⟩
    (.seq .n (.seq .n .n)) 1 (fun args h => by kernel_rfl)
/-- (roundhouse/mask.Mask).cores$1 -/
noncomputable def F356 (S : FS) (D : FD) (args : List AV) (h : Heap) : Option (Bool × AV × Heap) :=
 kv2 args fun yield_1 v2 =>
 ob (iterD (fun vs3 ds4 h5 => kv3 vs3 fun yield_6 v7 v8 =>
  ob (kbinI .lss v8 (.int .i64 (.ofNat 256))) fun v9 =>
  kif v9
   (ob (kloadN 4 h5 v7) fun v10 =>
   ob (S 242 [v10, v8] h5) fun r11 => kres r11 (fun v12 h13 =>
   ob (kgv true v12 (some yield_6)) fun v16 =>
   ob (kgv true v12 (some v8)) fun v17 =>
   ob (kgc true v12 h13 (D v16 [v17] h13)) fun r18 => kres r18 (fun v19 h20 =>
   ob (kgv true v12 (aun .not v19)) fun v23 =>
   ob (kpick v12 v23 (.bool false)) fun v24 =>
   kif v24
    ((some ⟨2, [], ds4, h20⟩))
    (ob (kbinI .add v8 (.int .i64 (.ofNat 1))) fun v25 =>
    (some ⟨0, [yield_6, v7, v25], ds4, h20⟩))) (fun p21 h22 => (some ⟨3, [p21], ds4, h22⟩))) (fun p14 h15 => (some ⟨3, [p14], ds4, h15⟩)))
   ((some ⟨1, [], ds4, h5⟩))) rounds [yield_1, v2, (.int .i64 (.ofNat 0))] [] h) fun r26 => kcase (J.i r26) [kv0 (J.vs r26) ((dleave (fun h27 => (some (false, (.tuple []), h27))) (J.ds r26) (J.h r26))),
 kv0 (J.vs r26) ((dleave (fun h28 => (some (false, (.tuple []), h28))) (J.ds r26) (J.h r26))),
 kv1 (J.vs r26) fun p29 => (kds (J.ds r26) (some (true, p29, (J.h r26))))]
theorem F356_ok {S : FS} {D : FD} (hS : SpecsOK Tryz.prog S) (hD : DynOK Tryz.prog D) : SpecOK Tryz.prog 356 (F356 S D) :=
  SpecOK.of (c := match Tryz.f356.body with | some c => c | none => .skip) (by kernel_rfl) hS hD ⟨Tryz.func356, rfl, by decide⟩
    (.seq .n (.one (.loop [0, 1, 4] [(.exit 0, []), (.ret, []), (.pan, [])] (.seq .n (.seq (.dup .n .n) (.seq (.one (.seq .n (.seq .n (.dup .n .n)))) .n)))))) 2 (fun args h => by kernel_rfl)
/-- (roundhouse/rec.State).newer$1 -/
noncomputable def F357 (S : FS) (D : FD) (args : List AV) (h : Heap) : Option (Bool × AV × Heap) :=
 kv2 args fun x_1 v2 =>
 knt x_1 (Heap.pushK h (.cells (AV.cells x_1) true 328) fun h3 =>
 ob (kfa 0 (.ptr (Heap.next h) 0)) fun v4 =>
 ob (kload h3 v4) fun v5 =>
 ob (kfa 1 v2) fun v6 =>
 ob (kload h3 v6) fun v7 =>
 ob (kbinI .eql v5 v7) fun v8 =>
 ob (kgv true v8 (kfa 1 (.ptr (Heap.next h) 0))) fun v9 =>
 ob (kgv true v8 (kload h3 v9)) fun v10 =>
 ob (kgv true v8 (kfa 2 v2)) fun v11 =>
 ob (kgv true v8 (kload h3 v11)) fun v12 =>
 ob (kgv true v8 (kbinI .geq v10 v12)) fun v13 =>
 ob (kpick v8 v13 (.bool false)) fun v14 =>
 (some (false, v14, h3)))
theorem F357_ok {S : FS} {D : FD} (hS : SpecsOK Tryz.prog S) (hD : DynOK Tryz.prog D) : SpecOK Tryz.prog 357 (F357 S D) :=
  SpecOK.of (c := match Tryz.f357.body with | some c => c | none => .skip) (by kernel_rfl) hS hD ⟨Tryz.func357, rfl, by decide⟩
    (.seq .n (.seq .n .n)) 2 (fun args h => by kernel_rfl)
/-- roundhouse/cores.block$1 -/
noncomputable def F358 (S : FS) (D : FD) (args : List AV) (h : Heap) : Option (Bool × AV × Heap) :=
 kv2 args fun yield_1 v2 =>
 ob (kloadN 2 h v2) fun v3 =>
 ob (S 346 [v3] h) fun r4 => kres r4 (fun v5 h6 =>
 ob (iterD (fun vs9 ds10 h11 => kv3 vs9 fun yield_12 v13 v14 =>
  ob (kbinI .lss v14 v13) fun v15 =>
  kif v15
   (ob (D yield_12 [v14] h11) fun r16 => kres r16 (fun v17 h18 =>
   ob (aun .not v17) fun v21 =>
   kif v21
    ((some ⟨2, [], ds10, h18⟩))
    (ob (kbinI .add v14 (.int .i64 (.ofNat 1))) fun v22 =>
    (some ⟨0, [yield_12, v13, v22], ds10, h18⟩))) (fun p19 h20 => (some ⟨3, [p19], ds10, h20⟩)))
   ((some ⟨1, [], ds10, h11⟩))) rounds [yield_1, v5, (.int .i64 (.ofNat 0))] [] h6) fun r23 => kcase (J.i r23) [kv0 (J.vs r23) ((dleave (fun h24 => (some (false, (.tuple []), h24))) (J.ds r23) (J.h r23))),
 kv0 (J.vs r23) ((dleave (fun h25 => (some (false, (.tuple []), h25))) (J.ds r23) (J.h r23))),
 kv1 (J.vs r23) fun p26 => (kds (J.ds r23) (some (true, p26, (J.h r23))))]) (fun p7 h8 => (some (true, p7, h8)))
theorem F358_ok {S : FS} {D : FD} (hS : SpecsOK Tryz.prog S) (hD : DynOK Tryz.prog D) : SpecOK Tryz.prog 358 (F358 S D) :=
  SpecOK.of (c := match Tryz.f358.body with | some c => c | none => .skip) (by kernel_rfl) hS hD ⟨Tryz.func358, rfl, by decide⟩
    (.seq .n (.one (.loop [0, 5, 6] [(.exit 0, []), (.ret, []), (.pan, [])] (.seq .n (.seq (.dup .n .n) (.seq (.one (.seq .n (.seq .n (.dup .n .n)))) .n)))))) 2 (fun args h => by kernel_rfl)
/-- roundhouse/cores.cyclic$1 -/
noncomputable def F359 (S : FS) (D : FD) (args : List AV) (h : Heap) : Option (Bool × AV × Heap) :=
 kv2 args fun yield_1 v2 =>
 ob (kfa 1 v2) fun v3 =>
 ob (kload h v3) fun v4 =>
 ob (iterD (fun vs5 ds6 h7 => kv4 vs5 fun yield_8 v9 v10 v11 =>
  ob (kbinI .lss v11 v10) fun v12 =>
  kif v12
   (ob (kfa 0 v9) fun v13 =>
   ob (kload h7 v13) fun v14 =>
   ob (iterD (fun vs15 ds16 h17 => kv7 vs15 fun yield_18 v19 place_20 v21 v22 v23 v24 =>
    ob (kbinI .lss v24 v23) fun v25 =>
    kif v25
     (ob (kfa 1 v19) fun v26 =>
     ob (kload h17 v26) fun v27 =>
     ob (kbinI .mul v24 v27) fun v28 =>
     ob (kbinI .add v28 place_20) fun v29 =>
     ob (D yield_18 [v29] h17) fun r30 => kres r30 (fun v31 h32 =>
     ob (aun .not v31) fun v35 =>
     kif v35
      ((some ⟨2, [], ds16, h32⟩))
      (ob (kbinI .add v24 (.int .i64 (.ofNat 1))) fun v36 =>
      (some ⟨0, [yield_18, v19, place_20, v21, v22, v23, v36], ds16, h32⟩))) (fun p33 h34 => (some ⟨3, [p33], ds16, h34⟩)))
     ((some ⟨1, [yield_18, v19, v21, v22], ds16, h17⟩))) rounds [yield_8, v9, v11, v10, v11, v14, (.int .i64 (.ofNat 0))] ds6 h7) fun r37 => kcase (J.i r37) [kv4 (J.vs r37) fun yield_38 v39 v40 v41 =>
    ob (kbinI .add v41 (.int .i64 (.ofNat 1))) fun v42 =>
    (some ⟨0, [yield_38, v39, v40, v42], (J.ds r37), (J.h r37)⟩),
   kv0 (J.vs r37) ((some ⟨2, [], (J.ds r37), (J.h r37)⟩)),
   kv1 (J.vs r37) fun p43 => (some ⟨3, [p43], (J.ds r37), (J.h r37)⟩)])
   ((some ⟨1, [], ds6, h7⟩))) rounds [yield_1, v2, v4, (.int .i64 (.ofNat 0))] [] h) fun r44 => kcase (J.i r44) [kv0 (J.vs r44) ((dleave (fun h45 => (some (false, (.tuple []), h45))) (J.ds r44) (J.h r44))),
 kv0 (J.vs r44) ((dleave (fun h46 => (some (false, (.tuple []), h46))) (J.ds r44) (J.h r44))),
 kv1 (J.vs r44) fun p47 => (kds (J.ds r44) (some (true, p47, (J.h r44))))]
theorem F359_ok {S : FS} {D : FD} (hS : SpecsOK Tryz.prog S) (hD : DynOK Tryz.prog D) : SpecOK Tryz.prog 359 (F359 S D) :=
  SpecOK.of (c := match Tryz.f359.body with | some c => c | none => .skip) (by kernel_rfl) hS hD ⟨Tryz.func359, rfl, by decide⟩
    (.seq .n (.one (.loop [0, 1, 6, 7] [(.exit 0, []), (.ret, []), (.pan, [])] (.seq .n (.seq (.dup .n .n) (.seq (.one (.seq .n (.seq .n (.one (.loop [0, 1, 3, 6, 7, 11, 12] [(.exit 2, [0, 1, 6, 7]), (.ret, []), (.pan, [])] (.seq .n (.seq (.dup .n .n) (.seq (.one (.seq .n (.seq .n (.dup .n .n)))) .n)))))))) .n)))))) 2 (fun args h => by kernel_rfl)
end Go.Rh.Tryz
