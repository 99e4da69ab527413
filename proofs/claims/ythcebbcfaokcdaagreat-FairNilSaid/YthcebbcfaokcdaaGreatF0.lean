/- Printed by wip/tools/gen.py: functions of the program as plain functions over abstract values, each with its proof. -/
import Derived.Test.YthcebbcfaokcdaaGreatProg
import Derived.Test.YthcebbcfaokcdaaGreatRh3
set_option maxRecDepth 1000000
set_option linter.unusedVariables false
namespace Go.Rh.Tryz
open Go.Proofs
/-- gosem.cut.init -/
noncomputable def F2 (S : FS) (D : FD) (args : List AV) (h : Heap) : Option (Bool × AV × Heap) :=
 kv0 args (ob (S 1 [] h) fun r1 => kres r1 (fun v2 h3 =>
 (some (false, (.tuple []), h3))) (fun p4 h5 => (some (true, p4, h5))))
theorem F2_ok {S : FS} {D : FD} (hS : SpecsOK Tryz.prog S) (hD : DynOK Tryz.prog D) : SpecOK Tryz.prog 2 (F2 S D) :=
  SpecOK.of (c := match Tryz.f2.body with | some c => c | none => .skip) (by kernel_rfl) hS hD ⟨Tryz.func2, rfl, by decide⟩
    .n 0 (fun args h => by kernel_rfl)
/-- roundhouse/roundhouselaw23.FairNil -/
noncomputable def F3 (S : FS) (D : FD) (args : List AV) (h : Heap) : Option (Bool × AV × Heap) :=
 kv2 args fun most_1 grace_2 =>
 ob (S 4 [AV.nilptr] h) fun r3 => kres r3 (fun v4 h5 =>
 ob (S 5 [AV.nilptr, most_1] h5) fun r8 => kres r8 (fun v9 h10 =>
 ob (aextract v9 0) fun v13 =>
 ob (aextract v9 1) fun v14 =>
 ob (S 6 [AV.nilptr, grace_2] h10) fun r15 => kres r15 (fun v16 h17 =>
 ob (aextract v16 0) fun v20 =>
 ob (aextract v16 1) fun v21 =>
 ob (S 7 [AV.nilptr, most_1] h17) fun r22 => kres r22 (fun v23 h24 =>
 ob (kbinI .eql v23 (.int .i64 (.ofNat 0))) fun v27 =>
 ob (kgv true v27 (some v13)) fun v28 =>
 ob (kgv true v27 (kbinI .eql v28 (.int .i64 (.ofNat 0)))) fun v29 =>
 ob (kpick v27 v29 (.bool false)) fun v30 =>
 ob (kgv true v30 (some v14)) fun v31 =>
 ob (kgv true v30 (aun .not v31)) fun v32 =>
 ob (kpick v30 v32 (.bool false)) fun v33 =>
 ob (kgv true v33 (some v20)) fun v34 =>
 ob (kgv true v33 (kbinI .eql v34 (.int .i64 (.ofNat 0)))) fun v35 =>
 ob (kpick v33 v35 (.bool false)) fun v36 =>
 ob (kgv true v36 (some v21)) fun v37 =>
 ob (kgv true v36 (kbinI .eql v37 (.int .i64 (.ofNat 1)))) fun v38 =>
 ob (kpick v36 v38 (.bool false)) fun v39 =>
 ob (kgc true v39 h24 (S 8 [] h24)) fun r40 => kres r40 (fun v41 h42 =>
 ob (kpick v39 v41 (.bool false)) fun v45 =>
 (some (false, v45, h42))) (fun p43 h44 => (some (true, p43, h44)))) (fun p25 h26 => (some (true, p25, h26)))) (fun p18 h19 => (some (true, p18, h19)))) (fun p11 h12 => (some (true, p11, h12)))) (fun p6 h7 => (some (true, p6, h7)))
theorem F3_ok {S : FS} {D : FD} (hS : SpecsOK Tryz.prog S) (hD : DynOK Tryz.prog D) : SpecOK Tryz.prog 3 (F3 S D) :=
  SpecOK.of (c := match Tryz.f3.body with | some c => c | none => .skip) (by kernel_rfl) hS hD ⟨Tryz.func3, rfl, by decide⟩
    (.seq .n (.seq .n (.seq .n (.seq .n (.seq .n .n))))) 2 (fun args h => by kernel_rfl)
/-- roundhouse/fair.Run -/
noncomputable def F5 (S : FS) (D : FD) (args : List AV) (h : Heap) : Option (Bool × AV × Heap) :=
 kv2 args fun w_1 most_2 =>
 ob (kbinO Tryz.prog .eql 31 true w_1 AV.nilptr) fun v3 =>
 kif v3
  ((some (false, (.tuple [(.int .i64 (.ofNat 0)), (.bool false)]), h)))
  (ob (amaxs false [most_2, (.int .i64 (.ofNat 100000))]) fun v4 =>
  ob (amaxs true [v4, (.int .i64 (.ofNat 0))]) fun v5 =>
  ob (iterD (fun vs6 ds7 h8 => kv4 vs6 fun w_9 most_10 v11 v12 =>
   ob (kbinI .lss v12 v11) fun v13 =>
   kif v13
    (ob (S 13 [w_9] h8) fun r14 => kres r14 (fun v15 h16 =>
    kif v15
     ((some ⟨2, [v12, (.bool true)], ds7, h16⟩))
     (ob (S 4 [w_9] h16) fun r19 => kres r19 (fun v20 h21 =>
     ob (kbinI .add v12 (.int .i64 (.ofNat 1))) fun v24 =>
     (some ⟨0, [w_9, most_10, v11, v24], ds7, h21⟩)) (fun p22 h23 => (some ⟨3, [p22], ds7, h23⟩)))) (fun p17 h18 => (some ⟨3, [p17], ds7, h18⟩)))
    ((some ⟨1, [w_9, most_10], ds7, h8⟩))) rounds [w_1, most_2, v5, (.int .i64 (.ofNat 0))] [] h) fun r25 => kcase (J.i r25) [kv2 (J.vs r25) fun w_26 most_27 =>
   ob (amaxs false [most_27, (.int .i64 (.ofNat 100000))]) fun v28 =>
   ob (amaxs true [v28, (.int .i64 (.ofNat 0))]) fun v29 =>
   ob (S 13 [w_26] (J.h r25)) fun r30 => kres r30 (fun v31 h32 =>
   (dleave (fun h35 => (some (false, (.tuple [v29, v31]), h35))) (J.ds r25) h32)) (fun p33 h34 => (kds (J.ds r25) (some (true, p33, h34)))),
  kv2 (J.vs r25) fun v36 v37 =>
   (dleave (fun h38 => (some (false, (.tuple [v36, v37]), h38))) (J.ds r25) (J.h r25)),
  kv1 (J.vs r25) fun p39 => (kds (J.ds r25) (some (true, p39, (J.h r25))))])
theorem F5_ok {S : FS} {D : FD} (hS : SpecsOK Tryz.prog S) (hD : DynOK Tryz.prog D) : SpecOK Tryz.prog 5 (F5 S D) :=
  SpecOK.of (c := match Tryz.f5.body with | some c => c | none => .skip) (by kernel_rfl) hS hD ⟨Tryz.func5, rfl, by decide⟩
    (.seq .n (.seq (.seq .n (.dup (.seq .n .n) .n)) (.seq (.seq .n (.one (.loop [0, 1, 11, 12] [(.exit 0, [0, 1]), (.ret, [4, 5]), (.pan, [])] (.seq .n (.seq (.dup .n .n) (.seq (.one (.seq .n (.seq (.seq .n (.dup (.seq .n .n) .n)) .n))) .n)))))) (.seq .n .n)))) 2 (fun args h => by kernel_rfl)
/-- roundhouse/fair.Bound -/
noncomputable def F6 (S : FS) (D : FD) (args : List AV) (h : Heap) : Option (Bool × AV × Heap) :=
 kv2 args fun w_1 grace_2 =>
 ob (kbinO Tryz.prog .eql 31 true w_1 AV.nilptr) fun v3 =>
 ob (kgv false v3 (some grace_2)) fun v4 =>
 ob (kgv false v3 (kbinI .lss v4 (.int .i64 (.ofNat 1)))) fun v5 =>
 ob (kpick v3 (.bool true) v5) fun v6 =>
 ob (kgv false v6 (some grace_2)) fun v7 =>
 ob (kgv false v6 (kbinI .gtr v7 (.int .i64 (.ofNat 1073741824)))) fun v8 =>
 ob (kpick v6 (.bool true) v8) fun v9 =>
 kif v9
  ((some (false, (.tuple [(.int .i64 (.ofNat 0)), (.int .i64 (.ofNat 1))]), h)))
  (ob (S 14 [w_1] h) fun r10 => kres r10 (fun v11 h12 =>
  ob (klenL v11) fun v15 =>
  ob (iterD (fun vs16 ds17 h18 => kv6 vs16 fun w_19 grace_20 n_21 v22 v23 v24 =>
   ob (kbinI .lss v24 v23) fun v25 =>
   kif v25
    (ob (kia 2 v22 v24) fun v26 =>
    ob (kloadN 2 h18 v26) fun v27 =>
    Heap.pushK h18 (.cells [AV.nilslice, AV.nilslice] true 40) fun h28 =>
    ob (kstore 2 (.ptr (Heap.next h18) 0) v27 h28) fun h29 =>
    ob (kbinI .add n_21 (.int .i64 (.ofNat 20))) fun v30 =>
    ob (kfa 0 (.ptr (Heap.next h18) 0)) fun v31 =>
    ob (kload h29 v31) fun v32 =>
    ob (klenL v32) fun v33 =>
    ob (iterD (fun vs34 ds35 h36 => kv10 vs34 fun w_37 grace_38 n_39 j_40 v41 v42 v43 v44 v45 v46 =>
     ob (kbinI .lss v46 v45) fun v47 =>
     kif v47
      (ob (kia 1 v44 v46) fun v48 =>
      ob (kload h36 v48) fun v49 =>
      ob (S 15 [w_37, v49] h36) fun r50 => kres r50 (fun v51 h52 =>
      ob (kbinO Tryz.prog .eql 35 true v51 AV.nilptr) fun v55 =>
      kif v55
       ((some ⟨2, [(.int .i64 (.ofNat 0)), (.int .i64 (.ofNat 5))], ds35, h52⟩))
       (ob (kbinI .add v46 (.int .i64 (.ofNat 1))) fun v56 =>
       (some ⟨0, [w_37, grace_38, n_39, j_40, v41, v42, v43, v44, v45, v56], ds35, h52⟩))) (fun p53 h54 => (some ⟨3, [p53], ds35, h54⟩)))
      ((some ⟨1, [w_37, grace_38, n_39, j_40, v41, v42, v43], ds35, h36⟩))) rounds [w_19, grace_20, v30, (.ptr (Heap.next h18) 0), v22, v23, v24, v32, v33, (.int .i64 (.ofNat 0))] ds17 h29) fun r57 => kcase (J.i r57) [kv7 (J.vs r57) fun w_58 grace_59 n_60 j_61 v62 v63 v64 =>
     ob (kfa 1 j_61) fun v65 =>
     ob (kload (J.h r57) v65) fun v66 =>
     ob (klenL v66) fun v67 =>
     ob (iterD (fun vs68 ds69 h70 => kv9 vs68 fun w_71 grace_72 n_73 v74 v75 v76 v77 v78 v79 =>
      ob (kbinI .lss v79 v78) fun v80 =>
      kif v80
       (ob (kia 5 v77 v79) fun v81 =>
       ob (kloadN 5 h70 v81) fun v82 =>
       Heap.pushK h70 (.cells [(.int .i64 (.ofNat 0)), (.int .i64 (.ofNat 0)), (.int .i64 (.ofNat 0)), (.int .i64 (.ofNat 0)), AV.nilslice] true 50) fun h83 =>
       ob (kstore 5 (.ptr (Heap.next h70) 0) v82 h83) fun h84 =>
       ob (kfa 3 (.ptr (Heap.next h70) 0)) fun v85 =>
       ob (kload h84 v85) fun v86 =>
       ob (kbinI .add v86 grace_72) fun v87 =>
       ob (kbinI .add v87 (.int .i64 (.ofNat 10))) fun v88 =>
       ob (kbinI .add n_73 v88) fun v89 =>
       ob (kbinI .add v79 (.int .i64 (.ofNat 1))) fun v90 =>
       (some ⟨0, [w_71, grace_72, v89, v74, v75, v76, v77, v78, v90], ds69, h84⟩))
       ((some ⟨1, [w_71, grace_72, n_73, v74, v75, v76], ds69, h70⟩))) rounds [w_58, grace_59, n_60, v62, v63, v64, v66, v67, (.int .i64 (.ofNat 0))] (J.ds r57) (J.h r57)) fun r91 => kcase (J.i r91) [kv6 (J.vs r91) fun w_92 grace_93 n_94 v95 v96 v97 =>
      ob (kbinI .add v97 (.int .i64 (.ofNat 1))) fun v98 =>
      (some ⟨0, [w_92, grace_93, n_94, v95, v96, v98], (J.ds r91), (J.h r91)⟩)],
    kv2 (J.vs r57) fun v99 v100 =>
     (some ⟨2, [v99, v100], (J.ds r57), (J.h r57)⟩),
    kv1 (J.vs r57) fun p101 => (some ⟨3, [p101], (J.ds r57), (J.h r57)⟩)])
    ((some ⟨1, [n_21], ds17, h18⟩))) rounds [w_1, grace_2, (.int .i64 (.ofNat 10)), v11, v15, (.int .i64 (.ofNat 0))] [] h12) fun r102 => kcase (J.i r102) [kv1 (J.vs r102) fun n_103 =>
   (dleave (fun h104 => (some (false, (.tuple [n_103, (.int .i64 (.ofNat 0))]), h104))) (J.ds r102) (J.h r102)),
  kv2 (J.vs r102) fun v105 v106 =>
   (dleave (fun h107 => (some (false, (.tuple [v105, v106]), h107))) (J.ds r102) (J.h r102)),
  kv1 (J.vs r102) fun p108 => (kds (J.ds r102) (some (true, p108, (J.h r102))))]) (fun p13 h14 => (some (true, p13, h14))))
theorem F6_ok {S : FS} {D : FD} (hS : SpecsOK Tryz.prog S) (hD : DynOK Tryz.prog D) : SpecOK Tryz.prog 6 (F6 S D) :=
  SpecOK.of (c := match Tryz.f6.body with | some c => c | none => .skip) (by kernel_rfl) hS hD ⟨Tryz.func6, rfl, by decide⟩
    (.seq .n (.seq (.seq .n (.dup (.seq .n .n) .n)) (.seq .n (.seq (.seq .n (.one (.loop [0, 1, 6, 24, 25, 26] [(.exit 0, [6]), (.ret, [4, 5]), (.pan, [])] (.seq .n (.seq (.dup .n .n) (.seq (.one (.seq .n (.seq .n (.seq (.seq .n (.one (.loop [0, 1, 6, 8, 24, 25, 26, 33, 34, 35] [(.exit 2, [0, 1, 6, 8, 24, 25, 26]), (.ret, [4, 5]), (.pan, [])] (.seq .n (.seq (.dup .n .n) (.seq (.one (.seq .n (.seq .n (.dup (.seq .n .n) .n)))) .n)))))) (.seq .n (.one (.loop [0, 1, 6, 24, 25, 26, 45, 46, 47] [(.exit 4, [0, 1, 6, 24, 25, 26])] (.seq .n (.seq (.dup .n .n) (.seq (.one (.seq .n .n)) .n)))))))))) .n)))))) (.seq .n .n))))) 2 (fun args h => by kernel_rfl)
/-- roundhouse/fair.Deliver -/
noncomputable def F7 (S : FS) (D : FD) (args : List AV) (h : Heap) : Option (Bool × AV × Heap) :=
 kv2 args fun w_1 most_2 =>
 ob (iterD (fun vs3 ds4 h5 => kv3 vs3 fun w_6 most_7 n_8 =>
  ob (kbinI .lss n_8 most_7) fun v9 =>
  ob (kgv true v9 (some w_6)) fun v10 =>
  ob (kgv true v9 (abuild Tryz.prog 42 [(0, (.int .i64 (.ofNat 3)))])) fun v11 =>
  ob (kgc true v9 h5 (S 11 [v10, v11] h5)) fun r12 => kres r12 (fun v13 h14 =>
  ob (kpick v9 v13 (.bool false)) fun v17 =>
  kif v17
   (ob (kbinI .add n_8 (.int .i64 (.ofNat 1))) fun v18 =>
   (some ⟨0, [w_6, most_7, v18], ds4, h14⟩))
   ((some ⟨1, [n_8], ds4, h14⟩))) (fun p15 h16 => (some ⟨2, [p15], ds4, h16⟩))) rounds [w_1, most_2, (.int .i64 (.ofNat 0))] [] h) fun r19 => kcase (J.i r19) [kv1 (J.vs r19) fun n_20 =>
  (dleave (fun h21 => (some (false, n_20, h21))) (J.ds r19) (J.h r19)),
 kv1 (J.vs r19) fun p22 => (kds (J.ds r19) (some (true, p22, (J.h r19))))]
theorem F7_ok {S : FS} {D : FD} (hS : SpecsOK Tryz.prog S) (hD : DynOK Tryz.prog D) : SpecOK Tryz.prog 7 (F7 S D) :=
  SpecOK.of (c := match Tryz.f7.body with | some c => c | none => .skip) (by kernel_rfl) hS hD ⟨Tryz.func7, rfl, by decide⟩
    (.seq .n (.seq .n (.seq (.one (.loop [0, 1, 5] [(.exit 0, [5]), (.pan, [])] (.seq (.seq .n (.dup .n .n)) (.one .n)))) (.seq .n .n)))) 2 (fun args h => by kernel_rfl)
/-- roundhouse/roundhouselaw23.live -/
noncomputable def F8 (S : FS) (D : FD) (args : List AV) (h : Heap) : Option (Bool × AV × Heap) :=
 kv0 args (ob (abuild Tryz.prog 54 [(0, (.int .i64 (.ofNat 1))), (1, (.int .i64 (.ofNat 2)))]) fun v1 =>
 ob (abuildSlice Tryz.prog 55 1 [(0, v1)]) fun r2 => Heap.pushK h (.cells r2.1 true r2.2.2) fun h3 =>
 ob (abuild Tryz.prog 57 [(0, (.slice (Heap.next h) 0 1 1 r2.2.1)), (1, (.str 1 107)), (2, (.int .i64 (.ofNat 2)))]) fun v4 =>
 ob (S 16 [v4] h3) fun r5 => kres r5 (fun v6 h7 =>
 ob (aextract v6 0) fun v10 =>
 ob (aextract v6 1) fun v11 =>
 ob (kbinI .neq v11 (.int .i64 (.ofNat 0))) fun v12 =>
 ob (kgv false v12 (some v10)) fun v13 =>
 ob (kgv false v12 (kbinO Tryz.prog .eql 31 true v13 AV.nilptr)) fun v14 =>
 ob (kpick v12 (.bool true) v14) fun v15 =>
 kif v15
  ((some (false, (.bool false), h7)))
  (ob (abuildSlice Tryz.prog 37 1 [(0, (.int .i64 (.ofNat 0)))]) fun r16 => Heap.pushK h7 (.cells r16.1 true r16.2.2) fun h17 =>
  ob (abuild Tryz.prog 50 [(0, (.int .i64 (.ofNat 1))), (1, (.int .i64 (.ofNat 1))), (3, (.int .i64 (.ofNat 4)))]) fun v18 =>
  ob (abuildSlice Tryz.prog 38 1 [(0, v18)]) fun r19 => Heap.pushK h17 (.cells r19.1 true r19.2.2) fun h20 =>
  ob (abuild Tryz.prog 40 [(0, (.slice (Heap.next h7) 0 1 1 r16.2.1)), (1, (.slice (Heap.next h17) 0 1 1 r19.2.1))]) fun v21 =>
  ob (abuild Tryz.prog 42 [(4, v21)]) fun v22 =>
  ob (S 11 [v10, v22] h20) fun r23 => kres r23 (fun v24 h25 =>
  ob (S 6 [v10, (.int .i64 (.ofNat 2))] h25) fun r28 => kres r28 (fun v29 h30 =>
  ob (aextract v29 0) fun v33 =>
  ob (aextract v29 1) fun v34 =>
  ob (S 5 [v10, (.int .i64 (.ofNat 3))] h30) fun r35 => kres r35 (fun v36 h37 =>
  ob (aextract v36 0) fun v40 =>
  ob (aextract v36 1) fun v41 =>
  ob (S 5 [v10, (.int .i64 (.ofNat 100))] h37) fun r42 => kres r42 (fun v43 h44 =>
  ob (aextract v43 0) fun v47 =>
  ob (aextract v43 1) fun v48 =>
  ob (S 17 [v10] h44) fun r49 => kres r49 (fun v50 h51 =>
  ob (S 18 [v50, (.int .i64 (.ofNat 1))] h51) fun r54 => kres r54 (fun v55 h56 =>
  ob (aextract v55 0) fun v59 =>
  ob (aextract v55 1) fun v60 =>
  Heap.pushK h56 (.cells [(.int .i64 (.ofNat 0)), (.int .i64 (.ofNat 0)), (.int .i64 (.ofNat 0)), (.int .i64 (.ofNat 0)), (.int .i64 (.ofNat 0)), AV.nilslice, AV.nilslice] true 59) fun h61 =>
  ob (kstore 7 (.ptr (Heap.next h56) 0) v59 h61) fun h62 =>
  ob (S 6 [AV.nilptr, (.int .i64 (.ofNat 2))] h62) fun r63 => kres r63 (fun v64 h65 =>
  ob (aextract v64 0) fun v68 =>
  ob (aextract v64 1) fun v69 =>
  ob (kbinI .eql v34 (.int .i64 (.ofNat 0))) fun v70 =>
  ob (kgv true v70 (some v33)) fun v71 =>
  ob (kgv true v70 (kbinI .eql v71 (.int .i64 (.ofNat 46)))) fun v72 =>
  ob (kpick v70 v72 (.bool false)) fun v73 =>
  ob (kgv true v73 (some v40)) fun v74 =>
  ob (kgv true v73 (kbinI .eql v74 (.int .i64 (.ofNat 3)))) fun v75 =>
  ob (kpick v73 v75 (.bool false)) fun v76 =>
  ob (kgv true v76 (some v41)) fun v77 =>
  ob (kgv true v76 (aun .not v77)) fun v78 =>
  ob (kpick v76 v78 (.bool false)) fun v79 =>
  ob (kgv true v79 (some v48)) fun v80 =>
  ob (kpick v79 v80 (.bool false)) fun v81 =>
  ob (kgv true v81 (some v47)) fun v82 =>
  ob (kgv true v81 (kbinI .gtr v82 (.int .i64 (.ofNat 3)))) fun v83 =>
  ob (kpick v81 v83 (.bool false)) fun v84 =>
  ob (kgv true v84 (some v47)) fun v85 =>
  ob (kgv true v84 (kbinI .lss v85 (.int .i64 (.ofNat 15)))) fun v86 =>
  ob (kpick v84 v86 (.bool false)) fun v87 =>
  ob (kgv true v87 (kfa 2 (.ptr (Heap.next h56) 0))) fun v88 =>
  ob (kgv true v87 (kload h65 v88)) fun v89 =>
  ob (kgv true v87 (kbinI .eql v89 (.int .i64 (.ofNat 3)))) fun v90 =>
  ob (kpick v87 v90 (.bool false)) fun v91 =>
  ob (kgv true v91 (kfa 3 (.ptr (Heap.next h56) 0))) fun v92 =>
  ob (kgv true v91 (kload h65 v92)) fun v93 =>
  ob (kgv true v91 (kbinI .eql v93 (.int .i64 (.ofNat 1)))) fun v94 =>
  ob (kpick v91 v94 (.bool false)) fun v95 =>
  ob (kgv true v95 (kfa 4 (.ptr (Heap.next h56) 0))) fun v96 =>
  ob (kgv true v95 (kload h65 v96)) fun v97 =>
  ob (kgv true v95 (kbinI .eql v97 (.int .i64 (.ofNat 137)))) fun v98 =>
  ob (kpick v95 v98 (.bool false)) fun v99 =>
  ob (kgv true v99 (some v10)) fun v100 =>
  ob (kgc true v99 h65 (S 13 [v100] h65)) fun r101 => kres r101 (fun v102 h103 =>
  ob (kpick v99 v102 (.bool false)) fun v106 =>
  ob (kgv true v106 (some v69)) fun v107 =>
  ob (kgv true v106 (kbinI .eql v107 (.int .i64 (.ofNat 1)))) fun v108 =>
  ob (kpick v106 v108 (.bool false)) fun v109 =>
  ob (kgv true v109 (some v10)) fun v110 =>
  ob (kgc true v109 h103 (S 7 [v110, (.int .i64 (.ofNat 5))] h103)) fun r111 => kres r111 (fun v112 h113 =>
  ob (kgv true v109 (kbinI .eql v112 (.int .i64 (.ofNat 0)))) fun v116 =>
  ob (kpick v109 v116 (.bool false)) fun v117 =>
  (some (false, v117, h113))) (fun p114 h115 => (some (true, p114, h115)))) (fun p104 h105 => (some (true, p104, h105)))) (fun p66 h67 => (some (true, p66, h67)))) (fun p57 h58 => (some (true, p57, h58)))) (fun p52 h53 => (some (true, p52, h53)))) (fun p45 h46 => (some (true, p45, h46)))) (fun p38 h39 => (some (true, p38, h39)))) (fun p31 h32 => (some (true, p31, h32)))) (fun p26 h27 => (some (true, p26, h27))))) (fun p8 h9 => (some (true, p8, h9))))
theorem F8_ok {S : FS} {D : FD} (hS : SpecsOK Tryz.prog S) (hD : DynOK Tryz.prog D) : SpecOK Tryz.prog 8 (F8 S D) :=
  SpecOK.of (c := match Tryz.f8.body with | some c => c | none => .skip) (by kernel_rfl) hS hD ⟨Tryz.func8, rfl, by decide⟩
    (.seq .n (.seq .n (.seq (.seq .n (.dup (.seq .n .n) .n)) (.seq .n (.seq .n (.seq .n (.seq .n (.seq .n (.seq .n (.seq .n .n)))))))))) 0 (fun args h => by kernel_rfl)
/-- roundhouse/fair.nodes -/
noncomputable def F9 (S : FS) (D : FD) (args : List AV) (h : Heap) : Option (Bool × AV × Heap) :=
 kv1 args fun w_1 =>
 knt w_1 (Heap.pushK h (.cells (AV.cells w_1) true 31) fun h2 =>
 (some (false, (.func 19 [(.ptr (Heap.next h) 0)]), h2)))
theorem F9_ok {S : FS} {D : FD} (hS : SpecsOK Tryz.prog S) (hD : DynOK Tryz.prog D) : SpecOK Tryz.prog 9 (F9 S D) :=
  SpecOK.of (c := match Tryz.f9.body with | some c => c | none => .skip) (by kernel_rfl) hS hD ⟨Tryz.func9, rfl, by decide⟩
    (.seq .n (.seq .n .n)) 1 (fun args h => by kernel_rfl)
/-- (*roundhouse/agent.Agent).Down -/
noncomputable def F10 (S : FS) (D : FD) (args : List AV) (h : Heap) : Option (Bool × AV × Heap) :=
 kv1 args fun a_1 =>
 ob (kbinO Tryz.prog .eql 35 true a_1 AV.nilptr) fun v2 =>
 ob (kgv false v2 (some a_1)) fun v3 =>
 ob (kgv false v2 (knil v3)) fun v4 =>
 ob (kgv false v2 (kfa 11 v4)) fun v5 =>
 ob (kgv false v2 (kload h v5)) fun v6 =>
 ob (kpick v2 (.bool true) v6) fun v7 =>
 (some (false, v7, h))
theorem F10_ok {S : FS} {D : FD} (hS : SpecsOK Tryz.prog S) (hD : DynOK Tryz.prog D) : SpecOK Tryz.prog 10 (F10 S D) :=
  SpecOK.of (c := match Tryz.f10.body with | some c => c | none => .skip) (by kernel_rfl) hS hD ⟨Tryz.func10, rfl, by decide⟩
    (.seq .n (.seq .n .n)) 1 (fun args h => by kernel_rfl)
/-- (*roundhouse/world.World).Do -/
noncomputable def F11 (S : FS) (D : FD) (args : List AV) (h : Heap) : Option (Bool × AV × Heap) :=
 kv2 args fun w_1 o_2 =>
 knt o_2 (Heap.pushK h (.cells (AV.cells o_2) true 42) fun h3 =>
 ob (kbinO Tryz.prog .eql 31 true w_1 AV.nilptr) fun v4 =>
 kif v4
  ((some (false, (.bool false), h3)))
  (ob (kfa 0 (.ptr (Heap.next h) 0)) fun v5 =>
  ob (kload h3 v5) fun v6 =>
  ob (S 21 [] h3) fun r7 => kres r7 (fun v8 h9 =>
  kre (kload h9 v5) v6 (ob (alookup Tryz.prog h9 84 v8 v6 true) fun v12 =>
  ob (aextract v12 0) fun v13 =>
  ob (aextract v12 1) fun v14 =>
  ob (aun .not v14) fun v15 =>
  kif v15
   ((some (false, (.bool false), h9)))
   (ob (S 22 [w_1] h9) fun r16 => kres r16 (fun v17 h18 =>
   ob (kloadN 6 h18 (.ptr (Heap.next h) 0)) fun v21 =>
   ob (D v13 [w_1, v21] h18) fun r22 => kres r22 (fun v23 h24 =>
   ob (S 23 [w_1, v17] h24) fun r27 => kres r27 (fun v28 h29 =>
   (some (false, v23, h29))) (fun p30 h31 => (some (true, p30, h31)))) (fun p25 h26 => (some (true, p25, h26)))) (fun p19 h20 => (some (true, p19, h20)))))) (fun p10 h11 => none)))
theorem F11_ok {S : FS} {D : FD} (hS : SpecsOK Tryz.prog S) (hD : DynOK Tryz.prog D) : SpecOK Tryz.prog 11 (F11 S D) :=
  SpecOK.of (c := match Tryz.f11.body with | some c => c | none => .skip) (by kernel_rfl) hS hD ⟨Tryz.func11, rfl, by decide⟩
    (.seq .n (.seq (.seq .n (.dup (.seq .n .n) .n)) (.seq .n (.seq (.seq .n (.dup (.seq .n .n) .n)) (.seq .n (.seq .n (.seq .n (.seq .n .n)))))))) 2 (fun args h => by kernel_rfl)
/-- roundhouse/fair.killedTask -/
noncomputable def F12 (S : FS) (D : FD) (args : List AV) (h : Heap) : Option (Bool × AV × Heap) :=
 kv1 args fun a_1 =>
 ob (S 24 [a_1] h) fun r2 => kres r2 (fun v3 h4 =>
 ob (klenL v3) fun v7 =>
 ob (iterD (fun vs8 ds9 h10 => kv5 vs8 fun a_11 place_12 v13 v14 v15 =>
  ob (kbinI .lss v15 v14) fun v16 =>
  kif v16
   (ob (ob (kia 8 v13 v15) fun v18 =>
    ob (kloadN 8 h10 v18) fun v19 =>
    Heap.pushK h10 (.cells [(.int .i64 (.ofNat 0)), (.int .i64 (.ofNat 0)), (.int .i64 (.ofNat 0)), (.int .i64 (.ofNat 0)), (.int .i64 (.ofNat 0)), AV.nilslice, (.int .i64 (.ofNat 0)), (.int .i64 (.ofNat 0))] true 92) fun h20 =>
    ob (kstore 8 (.ptr (Heap.next h10) 0) v19 h20) fun h21 =>
    ob (kfa 6 (.ptr (Heap.next h10) 0)) fun v22 =>
    ob (kload h21 v22) fun v23 =>
    ob (kbinI .neq v23 (.int .i64 (.ofNat 1))) fun v24 =>
    kif v24
     ((some ⟨0, [a_11, place_12, v13, v14, v15], ds9, h21⟩))
     (ob (kfa 0 (.ptr (Heap.next h10) 0)) fun v25 =>
     ob (kload h21 v25) fun v26 =>
     ob (S 25 [a_11, v26] h21) fun r27 => kres r27 (fun v28 h29 =>
     ob (kbinI .eql v28 (.int .i64 (.ofNat 9))) fun v32 =>
     kif v32
      ((some ⟨1, [place_12], ds9, h29⟩))
      (ob (kbinI .add place_12 (.int .i64 (.ofNat 1))) fun v33 =>
      (some ⟨0, [a_11, v33, v13, v14, v15], ds9, h29⟩))) (fun p30 h31 => (some ⟨2, [p30], ds9, h31⟩)))) fun r17 => kcase (J.i r17) [kv5 (J.vs r17) fun a_34 place_35 v36 v37 v38 =>
    ob (kbinI .add v38 (.int .i64 (.ofNat 1))) fun v39 =>
    (some ⟨0, [a_34, place_35, v36, v37, v39], (J.ds r17), (J.h r17)⟩),
   kv1 (J.vs r17) fun v40 =>
    (some ⟨2, [v40], (J.ds r17), (J.h r17)⟩),
   kv1 (J.vs r17) fun p41 => (some ⟨3, [p41], (J.ds r17), (J.h r17)⟩)])
   ((some ⟨1, [], ds9, h10⟩))) rounds [a_1, (.int .i64 (.ofNat 0)), v3, v7, (.int .i64 (.ofNat 0))] [] h4) fun r42 => kcase (J.i r42) [kv0 (J.vs r42) ((dleave (fun h43 => (some (false, (.int .i64 (.negSucc 0)), h43))) (J.ds r42) (J.h r42))),
 kv1 (J.vs r42) fun v44 =>
  (dleave (fun h45 => (some (false, v44, h45))) (J.ds r42) (J.h r42)),
 kv1 (J.vs r42) fun p46 => (kds (J.ds r42) (some (true, p46, (J.h r42))))]) (fun p5 h6 => (some (true, p5, h6)))
theorem F12_ok {S : FS} {D : FD} (hS : SpecsOK Tryz.prog S) (hD : DynOK Tryz.prog D) : SpecOK Tryz.prog 12 (F12 S D) :=
  SpecOK.of (c := match Tryz.f12.body with | some c => c | none => .skip) (by kernel_rfl) hS hD ⟨Tryz.func12, rfl, by decide⟩
    (.seq .n (.seq .n (.seq (.seq .n (.one (.loop [0, 3, 7, 8, 9] [(.exit 0, []), (.ret, [2]), (.pan, [])] (.seq .n (.seq (.dup .n .n) (.seq (.join [(.norm, [0, 3, 7, 8, 9]), (.ret, [2]), (.pan, [])] (.one (.seq .n (.seq (.seq .n (.dup .n .n)) (.seq (.seq .n (.dup (.seq .n .n) .n)) .n))))) .n)))))) (.seq .n .n)))) 1 (fun args h => by kernel_rfl)
/-- roundhouse/audit.Idle -/
noncomputable def F13 (S : FS) (D : FD) (args : List AV) (h : Heap) : Option (Bool × AV × Heap) :=
 kv1 args fun w_1 =>
 ob (kbinO Tryz.prog .eql 31 true w_1 AV.nilptr) fun v2 =>
 ob (kgv false v2 (some w_1)) fun v3 =>
 ob (kgc false v2 h (S 26 [v3] h)) fun r4 => kres r4 (fun v5 h6 =>
 ob (kgv false v2 (abuild Tryz.prog 95 [])) fun v9 =>
 ob (kgv false v2 (kbinO Tryz.prog .neq 95 false v5 v9)) fun v10 =>
 ob (kpick v2 (.bool true) v10) fun v11 =>
 kif v11
  ((some (false, (.bool false), h6)))
  (ob (S 17 [w_1] h6) fun r12 => kres r12 (fun v13 h14 =>
  ob (S 27 [v13] h14) fun r17 => kres r17 (fun v18 h19 =>
  ob (iterD (fun vs22 ds23 h24 => kv3 vs22 fun w_25 v26 v27 =>
   ob (kbinI .lss v27 v26) fun v28 =>
   kif v28
    (ob (S 17 [w_25] h24) fun r29 => kres r29 (fun v30 h31 =>
    ob (kbinI .add v27 (.int .i64 (.ofNat 1))) fun v34 =>
    ob (S 18 [v30, v34] h31) fun r35 => kres r35 (fun v36 h37 =>
    ob (aextract v36 0) fun v40 =>
    ob (aextract v36 1) fun v41 =>
    Heap.pushK h37 (.cells [(.int .i64 (.ofNat 0)), (.int .i64 (.ofNat 0)), (.int .i64 (.ofNat 0)), (.int .i64 (.ofNat 0)), (.int .i64 (.ofNat 0)), AV.nilslice, AV.nilslice] true 59) fun h42 =>
    ob (kstore 7 (.ptr (Heap.next h37) 0) v40 h42) fun h43 =>
    ob (kfa 2 (.ptr (Heap.next h37) 0)) fun v44 =>
    ob (kload h43 v44) fun v45 =>
    ob (kbinI .neq v45 (.int .i64 (.ofNat 3))) fun v46 =>
    kif v46
     ((some ⟨2, [(.bool false)], ds23, h43⟩))
     (ob (kbinI .add v27 (.int .i64 (.ofNat 1))) fun v47 =>
     (some ⟨0, [w_25, v26, v47], ds23, h43⟩))) (fun p38 h39 => (some ⟨3, [p38], ds23, h39⟩))) (fun p32 h33 => (some ⟨3, [p32], ds23, h33⟩)))
    ((some ⟨1, [], ds23, h24⟩))) rounds [w_1, v18, (.int .i64 (.ofNat 0))] [] h19) fun r48 => kcase (J.i r48) [kv0 (J.vs r48) ((dleave (fun h49 => (some (false, (.bool true), h49))) (J.ds r48) (J.h r48))),
  kv1 (J.vs r48) fun v50 =>
   (dleave (fun h51 => (some (false, v50, h51))) (J.ds r48) (J.h r48)),
  kv1 (J.vs r48) fun p52 => (kds (J.ds r48) (some (true, p52, (J.h r48))))]) (fun p20 h21 => (some (true, p20, h21)))) (fun p15 h16 => (some (true, p15, h16))))) (fun p7 h8 => (some (true, p7, h8)))
theorem F13_ok {S : FS} {D : FD} (hS : SpecsOK Tryz.prog S) (hD : DynOK Tryz.prog D) : SpecOK Tryz.prog 13 (F13 S D) :=
  SpecOK.of (c := match Tryz.f13.body with | some c => c | none => .skip) (by kernel_rfl) hS hD ⟨Tryz.func13, rfl, by decide⟩
    (.seq .n (.seq (.seq .n (.dup (.seq .n .n) .n)) (.seq (.seq .n (.one (.loop [0, 16, 17] [(.exit 0, []), (.ret, [2]), (.pan, [])] (.seq .n (.seq (.dup .n .n) (.seq (.one (.seq .n (.seq .n (.seq .n (.dup (.seq .n .n) .n))))) .n)))))) (.seq .n .n)))) 1 (fun args h => by kernel_rfl)
/-- (*roundhouse/world.World).Given -/
noncomputable def F14 (S : FS) (D : FD) (args : List AV) (h : Heap) : Option (Bool × AV × Heap) :=
 kv1 args fun w_1 =>
 ob (kbinO Tryz.prog .eql 31 true w_1 AV.nilptr) fun v2 =>
 kif v2
  ((some (false, AV.nilslice, h)))
  (ob (knil w_1) fun v3 =>
  ob (kfa 4 v3) fun v4 =>
  ob (kload h v4) fun v5 =>
  ob (S 28 [v5] h) fun r6 => kres r6 (fun v7 h8 =>
  (some (false, v7, h8))) (fun p9 h10 => (some (true, p9, h10))))
theorem F14_ok {S : FS} {D : FD} (hS : SpecsOK Tryz.prog S) (hD : DynOK Tryz.prog D) : SpecOK Tryz.prog 14 (F14 S D) :=
  SpecOK.of (c := match Tryz.f14.body with | some c => c | none => .skip) (by kernel_rfl) hS hD ⟨Tryz.func14, rfl, by decide⟩
    (.seq .n (.seq (.seq .n (.dup (.seq .n .n) .n)) (.seq .n .n))) 1 (fun args h => by kernel_rfl)
/-- (*roundhouse/world.World).Node -/
noncomputable def F15 (S : FS) (D : FD) (args : List AV) (h : Heap) : Option (Bool × AV × Heap) :=
 kv2 args fun w_1 i_2 =>
 ob (kbinO Tryz.prog .eql 31 true w_1 AV.nilptr) fun v3 =>
 ob (kgv false v3 (some i_2)) fun v4 =>
 ob (kgv false v3 (kbinI .lss v4 (.int .i64 (.ofNat 0)))) fun v5 =>
 ob (kpick v3 (.bool true) v5) fun v6 =>
 ob (kgv false v6 (some i_2)) fun v7 =>
 ob (kgv false v6 (some w_1)) fun v8 =>
 ob (kgv false v6 (knil v8)) fun v9 =>
 ob (kgv false v6 (kfa 0 v9)) fun v10 =>
 ob (kgv false v6 (kload h v10)) fun v11 =>
 ob (kgv false v6 (klenL v11)) fun v12 =>
 ob (kgv false v6 (kbinI .geq v7 v12)) fun v13 =>
 ob (kpick v6 (.bool true) v13) fun v14 =>
 kif v14
  ((some (false, AV.nilptr, h)))
  (ob (knil w_1) fun v15 =>
  ob (kfa 0 v15) fun v16 =>
  ob (kload h v16) fun v17 =>
  ob (kia 1 v17 i_2) fun v18 =>
  ob (kload h v18) fun v19 =>
  (some (false, v19, h)))
theorem F15_ok {S : FS} {D : FD} (hS : SpecsOK Tryz.prog S) (hD : DynOK Tryz.prog D) : SpecOK Tryz.prog 15 (F15 S D) :=
  SpecOK.of (c := match Tryz.f15.body with | some c => c | none => .skip) (by kernel_rfl) hS hD ⟨Tryz.func15, rfl, by decide⟩
    (.seq .n (.seq (.seq .n (.dup (.seq .n .n) .n)) (.seq .n .n))) 2 (fun args h => by kernel_rfl)
/-- roundhouse/world.New -/
noncomputable def F16 (S : FS) (D : FD) (args : List AV) (h : Heap) : Option (Bool × AV × Heap) :=
 kv1 args fun c_1 =>
 knt c_1 (Heap.pushK h (.cells (AV.cells c_1) true 57) fun h2 =>
 ob (kfa 0 (.ptr (Heap.next h) 0)) fun v3 =>
 ob (kload h2 v3) fun v4 =>
 ob (klenL v4) fun v5 =>
 ob (kbinI .lss v5 (.int .i64 (.ofNat 1))) fun v6 =>
 ob (kgv false v6 (kfa 0 (.ptr (Heap.next h) 0))) fun v7 =>
 ob (kgv false v6 (kload h2 v7)) fun v8 =>
 ob (kgv false v6 (klenL v8)) fun v9 =>
 ob (kgv false v6 (kbinI .gtr v9 (.int .i64 (.ofNat 16)))) fun v10 =>
 ob (kpick v6 (.bool true) v10) fun v11 =>
 kif v11
  ((some (false, (.tuple [AV.nilptr, (.int .i64 (.ofNat 1))]), h2)))
  (ob (kfa 1 (.ptr (Heap.next h) 0)) fun v12 =>
  ob (kload h2 v12) fun v13 =>
  ob (kfa 0 (.ptr (Heap.next h) 0)) fun v14 =>
  ob (kload h2 v14) fun v15 =>
  ob (klenL v15) fun v16 =>
  kfree h2 (ob (amakeSlice Tryz.prog 37 v16 v16) fun r17 => Heap.pushK h2 (.cells r17.1 true r17.2.2.2.2) fun h18 =>
  ob (S 29 [v13] h18) fun r19 => kres r19 (fun v20 h21 =>
  kro (Heap.next h2) h18 h21 (kre (kload h21 v14) v15 (ob (S 30 [(.int .i64 (.ofNat 200))] h21) fun r24 => kres r24 (fun v25 h26 =>
  kro (Heap.next h2) h18 h26 (kre (kload h26 v14) v15 (ob (abuild Tryz.prog 102 [(1, v20), (2, v25), (6, (.slice (Heap.next h2) 0 r17.2.1 r17.2.2.1 r17.2.2.2.1))]) fun v29 =>
  kfree h26 (knt v29 (Heap.pushK h26 (.cells (AV.cells v29) true 102) fun h30 =>
  ob (kfa 0 (.ptr (Heap.next h) 0)) fun v31 =>
  ob (kload h30 v31) fun v32 =>
  ob (klenL v32) fun v33 =>
  ob (iterD (fun vs34 ds35 h36 => kv5 vs34 fun c_37 w_38 v39 v40 v41 =>
   ob (kbinI .lss v41 v40) fun v42 =>
   kif v42
    (ob (kia 2 v39 v41) fun v43 =>
    ob (kloadN 2 h36 v43) fun v44 =>
    Heap.pushK h36 (.cells [(.int .i64 (.ofNat 0)), (.int .i64 (.ofNat 0))] true 54) fun h45 =>
    ob (kstore 2 (.ptr (Heap.next h36) 0) v44 h45) fun h46 =>
    ob (kloadN 2 h46 (.ptr (Heap.next h36) 0)) fun v47 =>
    ob (kfa 1 c_37) fun v48 =>
    ob (kload h46 v48) fun v49 =>
    ob (kfa 2 c_37) fun v50 =>
    ob (kload h46 v50) fun v51 =>
    ob (kfa 3 c_37) fun v52 =>
    ob (kload h46 v52) fun v53 =>
    ob (abuild Tryz.prog 72 [(0, v41), (1, v47), (2, v49), (3, v51), (4, v53)]) fun v54 =>
    ob (S 31 [v54] h46) fun r55 => kres r55 (fun v56 h57 =>
    ob (kbinO Tryz.prog .eql 35 true v56 AV.nilptr) fun v60 =>
    kif v60
     ((some ⟨2, [AV.nilptr, (.int .i64 (.ofNat 1))], ds35, h57⟩))
     (ob (knil w_38) fun v61 =>
     ob (kfa 0 v61) fun v62 =>
     ob (kload h57 v62) fun v63 =>
     ob (abuildSlice Tryz.prog 98 1 [(0, v56)]) fun r64 => Heap.pushK h57 (.cells r64.1 true r64.2.2) fun h65 =>
     ob (aappend Tryz.prog h65 98 98 v63 (.slice (Heap.next h57) 0 1 1 r64.2.1)) fun r66 =>
     ob (knil w_38) fun v67 =>
     ob (kfa 0 v67) fun v68 =>
     ob (kstore 1 v68 r66.1 r66.2) fun h69 =>
     ob (kbinI .add v41 (.int .i64 (.ofNat 1))) fun v70 =>
     (some ⟨0, [c_37, w_38, v39, v40, v70], ds35, h69⟩))) (fun p58 h59 => (some ⟨3, [p58], ds35, h59⟩)))
    ((some ⟨1, [w_38], ds35, h36⟩))) rounds [(.ptr (Heap.next h) 0), (.ptr (Heap.next h26) 0), v32, v33, (.int .i64 (.ofNat 0))] [] h30) fun r71 => kcase (J.i r71) [kv1 (J.vs r71) fun w_72 =>
   (dleave (fun h73 => (some (false, (.tuple [w_72, (.int .i64 (.ofNat 0))]), h73))) (J.ds r71) (J.h r71)),
  kv2 (J.vs r71) fun v74 v75 =>
   (dleave (fun h76 => (some (false, (.tuple [v74, v75]), h76))) (J.ds r71) (J.h r71)),
  kv1 (J.vs r71) fun p77 => (kds (J.ds r71) (some (true, p77, (J.h r71))))]))))) (fun p27 h28 => none)))) (fun p22 h23 => none))))
theorem F16_ok {S : FS} {D : FD} (hS : SpecsOK Tryz.prog S) (hD : DynOK Tryz.prog D) : SpecOK Tryz.prog 16 (F16 S D) :=
  SpecOK.of (c := match Tryz.f16.body with | some c => c | none => .skip) (by kernel_rfl) hS hD ⟨Tryz.func16, rfl, by decide⟩
    (.seq .n (.seq (.seq .n (.dup (.seq .n .n) .n)) (.seq .n (.seq (.seq .n (.one (.loop [1, 4, 29, 30, 31] [(.exit 0, [4]), (.ret, [2, 3]), (.pan, [])] (.seq .n (.seq (.dup .n .n) (.seq (.one (.seq .n (.seq .n (.seq (.seq .n (.dup (.seq .n .n) .n)) .n)))) .n)))))) (.seq .n .n))))) 1 (fun args h => by kernel_rfl)
/-- (*roundhouse/world.World).Ctl -/
noncomputable def F17 (S : FS) (D : FD) (args : List AV) (h : Heap) : Option (Bool × AV × Heap) :=
 kv1 args fun w_1 =>
 ob (kbinO Tryz.prog .eql 31 true w_1 AV.nilptr) fun v2 =>
 kif v2
  ((some (false, AV.nilptr, h)))
  (ob (knil w_1) fun v3 =>
  ob (kfa 1 v3) fun v4 =>
  ob (kload h v4) fun v5 =>
  (some (false, v5, h)))
theorem F17_ok {S : FS} {D : FD} (hS : SpecsOK Tryz.prog S) (hD : DynOK Tryz.prog D) : SpecOK Tryz.prog 17 (F17 S D) :=
  SpecOK.of (c := match Tryz.f17.body with | some c => c | none => .skip) (by kernel_rfl) hS hD ⟨Tryz.func17, rfl, by decide⟩
    (.seq .n (.seq (.seq .n (.dup (.seq .n .n) .n)) (.seq .n .n))) 1 (fun args h => by kernel_rfl)
/-- (*roundhouse/ctl.Ctl).Job -/
noncomputable def F18 (S : FS) (D : FD) (args : List AV) (h : Heap) : Option (Bool × AV × Heap) :=
 kv2 args fun c_1 id_2 =>
 Heap.pushK h (.cells [(.int .i64 (.ofNat 0)), (.int .i64 (.ofNat 0)), (.int .i64 (.ofNat 0)), (.int .i64 (.ofNat 0)), (.int .i64 (.ofNat 0)), AV.nilslice, AV.nilslice] true 59) fun h3 =>
 ob (S 32 [c_1, id_2] h3) fun r4 => kres r4 (fun v5 h6 =>
 ob (kbinO Tryz.prog .eql 106 true v5 AV.nilptr) fun v9 =>
 kif v9
  (ob (abuild Tryz.prog 59 []) fun v10 =>
  ob (kstore 7 (.ptr (Heap.next h) 0) v10 h6) fun h11 =>
  ob (kloadN 7 h11 (.ptr (Heap.next h) 0)) fun v12 => (some (false, (.tuple [v12, (.bool false)]), h11)))
  (ob (knil v5) fun v13 =>
  ob (kfa 2 v13) fun v14 =>
  ob (kload h6 v14) fun v15 =>
  ob (knil v5) fun v16 =>
  ob (kfa 3 v16) fun v17 =>
  ob (kload h6 v17) fun v18 =>
  ob (knil v5) fun v19 =>
  ob (kfa 4 v19) fun v20 =>
  ob (kload h6 v20) fun v21 =>
  ob (knil v5) fun v22 =>
  ob (kfa 5 v22) fun v23 =>
  ob (kload h6 v23) fun v24 =>
  ob (knil v5) fun v25 =>
  ob (kfa 6 v25) fun v26 =>
  ob (kload h6 v26) fun v27 =>
  ob (knil v5) fun v28 =>
  ob (kfa 7 v28) fun v29 =>
  ob (kload h6 v29) fun v30 =>
  kfree h6 (Heap.pushK h6 (.cells [(.int .i64 (.ofNat 0)), (.int .i64 (.ofNat 0)), (.int .i64 (.ofNat 0)), (.int .i64 (.ofNat 0)), (.int .i64 (.ofNat 0)), AV.nilslice, AV.nilslice] true 59) fun h31 =>
  ob (S 33 [v30] h31) fun r32 => kres r32 (fun v33 h34 =>
  kro (Heap.next h6) h31 h34 (kre (kload h34 v26) v27 (kre (kload h34 v23) v24 (kre (kload h34 v20) v21 (kre (kload h34 v17) v18 (kre (kload h34 v14) v15 (ob (abuild Tryz.prog 59 [(0, v15), (1, v18), (2, v21), (3, v24), (4, v27), (5, v33)]) fun v37 =>
  ob (kstore 7 (.ptr (Heap.next h6) 0) v37 h34) fun h38 =>
  ob (knil v5) fun v39 =>
  ob (kfa 8 v39) fun v40 =>
  ob (kload h38 v40) fun v41 =>
  ob (klenL v41) fun v42 =>
  ob (iterD (fun vs43 ds44 h45 => kv5 vs43 fun v46 j_47 v48 v49 v50 =>
   ob (kbinI .lss v50 v49) fun v51 =>
   kif v51
    (ob (kia 1 v48 v50) fun v52 =>
    ob (kload h45 v52) fun v53 =>
    ob (kbinO Tryz.prog .neq 112 true v53 AV.nilptr) fun v54 =>
    ob (kif v54
     (ob (S 34 [v53] h45) fun r56 => kres r56 (fun v57 h58 =>
     (some ⟨0, [v46, j_47, v57, v48, v49, v50], ds44, h58⟩)) (fun p59 h60 => (some ⟨1, [p59], ds44, h60⟩)))
     ((some ⟨0, [v46, j_47, (.int .i64 (.negSucc 0)), v48, v49, v50], ds44, h45⟩))) fun r55 => kcase (J.i r55) [kv6 (J.vs r55) fun v61 j_62 state_63 v64 v65 v66 =>
     ob (kfa 6 j_62) fun v67 =>
     ob (kload (J.h r55) v67) fun v68 =>
     ob (abuildSlice Tryz.prog 37 1 [(0, state_63)]) fun r69 => Heap.pushK (J.h r55) (.cells r69.1 true r69.2.2) fun h70 =>
     ob (aappend Tryz.prog h70 37 37 v68 (.slice (Heap.next (J.h r55)) 0 1 1 r69.2.1)) fun r71 =>
     ob (kfa 6 j_62) fun v72 =>
     ob (kstore 1 v72 r71.1 r71.2) fun h73 =>
     ob (kbinI .add v66 (.int .i64 (.ofNat 1))) fun v74 =>
     (some ⟨0, [v61, j_62, v64, v65, v74], (J.ds r55), h73⟩),
    kv1 (J.vs r55) fun p75 => (some ⟨2, [p75], (J.ds r55), (J.h r55)⟩)])
    ((some ⟨1, [v46, j_47], ds44, h45⟩))) rounds [(.ptr (Heap.next h) 0), (.ptr (Heap.next h6) 0), v41, v42, (.int .i64 (.ofNat 0))] [] h38) fun r76 => kcase (J.i r76) [kv2 (J.vs r76) fun v77 j_78 =>
   ob (kloadN 7 (J.h r76) j_78) fun v79 =>
   ob (kstore 7 v77 v79 (J.h r76)) fun h80 =>
   (dleave (fun h81 => ob (kloadN 7 h81 v77) fun v82 => (some (false, (.tuple [v82, (.bool true)]), h81))) (J.ds r76) h80),
  kv1 (J.vs r76) fun p83 => (kds (J.ds r76) (some (true, p83, (J.h r76))))]))))))) (fun p35 h36 => none)))) (fun p7 h8 => (some (true, p7, h8)))
theorem F18_ok {S : FS} {D : FD} (hS : SpecsOK Tryz.prog S) (hD : DynOK Tryz.prog D) : SpecOK Tryz.prog 18 (F18 S D) :=
  SpecOK.of (c := match Tryz.f18.body with | some c => c | none => .skip) (by kernel_rfl) hS hD ⟨Tryz.func18, rfl, by decide⟩
    (.seq .n (.seq .n (.seq (.seq .n (.dup (.seq .n .n) .n)) (.seq .n (.seq (.seq .n (.one (.loop [4, 7, 46, 47, 48] [(.exit 0, [4, 7]), (.pan, [])] (.seq .n (.seq (.dup .n .n) (.seq (.one (.seq .n (.seq .n (.seq (.seq .n (.join [(.norm, [4, 7, 10, 46, 47, 48]), (.pan, [])] (.dup .n .n))) .n)))) .n)))))) (.seq .n .n)))))) 2 (fun args h => by kernel_rfl)
/-- roundhouse/fair.nodes$1 -/
noncomputable def F19 (S : FS) (D : FD) (args : List AV) (h : Heap) : Option (Bool × AV × Heap) :=
 kv2 args fun yield_1 v2 =>
 ob (kload h v2) fun v3 =>
 ob (S 20 [v3] h) fun r4 => kres r4 (fun v5 h6 =>
 ob (iterD (fun vs9 ds10 h11 => kv4 vs9 fun yield_12 v13 v14 v15 =>
  ob (kbinI .lss v15 v14) fun v16 =>
  kif v16
   (ob (kload h11 v13) fun v17 =>
   ob (S 15 [v17, v15] h11) fun r18 => kres r18 (fun v19 h20 =>
   ob (D yield_12 [v15, v19] h20) fun r23 => kres r23 (fun v24 h25 =>
   ob (aun .not v24) fun v28 =>
   kif v28
    ((some ⟨2, [], ds10, h25⟩))
    (ob (kbinI .add v15 (.int .i64 (.ofNat 1))) fun v29 =>
    (some ⟨0, [yield_12, v13, v14, v29], ds10, h25⟩))) (fun p26 h27 => (some ⟨3, [p26], ds10, h27⟩))) (fun p21 h22 => (some ⟨3, [p21], ds10, h22⟩)))
   ((some ⟨1, [], ds10, h11⟩))) rounds [yield_1, v2, v5, (.int .i64 (.ofNat 0))] [] h6) fun r30 => kcase (J.i r30) [kv0 (J.vs r30) ((dleave (fun h31 => (some (false, (.tuple []), h31))) (J.ds r30) (J.h r30))),
 kv0 (J.vs r30) ((dleave (fun h32 => (some (false, (.tuple []), h32))) (J.ds r30) (J.h r30))),
 kv1 (J.vs r30) fun p33 => (kds (J.ds r30) (some (true, p33, (J.h r30))))]) (fun p7 h8 => (some (true, p7, h8)))
theorem F19_ok {S : FS} {D : FD} (hS : SpecsOK Tryz.prog S) (hD : DynOK Tryz.prog D) : SpecOK Tryz.prog 19 (F19 S D) :=
  SpecOK.of (c := match Tryz.f19.body with | some c => c | none => .skip) (by kernel_rfl) hS hD ⟨Tryz.func19, rfl, by decide⟩
    (.seq .n (.one (.loop [0, 1, 5, 6] [(.exit 0, []), (.ret, []), (.pan, [])] (.seq .n (.seq (.dup .n .n) (.seq (.one (.seq .n (.seq .n (.dup .n .n)))) .n)))))) 2 (fun args h => by kernel_rfl)
/-- (*roundhouse/world.World).Nodes -/
noncomputable def F20 (S : FS) (D : FD) (args : List AV) (h : Heap) : Option (Bool × AV × Heap) :=
 kv1 args fun w_1 =>
 ob (kbinO Tryz.prog .eql 31 true w_1 AV.nilptr) fun v2 =>
 kif v2
  ((some (false, (.int .i64 (.ofNat 0)), h)))
  (ob (knil w_1) fun v3 =>
  ob (kfa 0 v3) fun v4 =>
  ob (kload h v4) fun v5 =>
  ob (klenL v5) fun v6 =>
  (some (false, v6, h)))
theorem F20_ok {S : FS} {D : FD} (hS : SpecsOK Tryz.prog S) (hD : DynOK Tryz.prog D) : SpecOK Tryz.prog 20 (F20 S D) :=
  SpecOK.of (c := match Tryz.f20.body with | some c => c | none => .skip) (by kernel_rfl) hS hD ⟨Tryz.func20, rfl, by decide⟩
    (.seq .n (.seq (.seq .n (.dup (.seq .n .n) .n)) (.seq .n .n))) 1 (fun args h => by kernel_rfl)
/-- roundhouse/world.ops -/
noncomputable def F21 (S : FS) (D : FD) (args : List AV) (h : Heap) : Option (Bool × AV × Heap) :=
 kv0 args (Heap.pushK h (.map [] [] 0) fun h1 =>
 ob (amapSet Tryz.prog h1 84 (.map (Heap.next h)) (.int .i64 (.ofNat 0)) (.func 35 [])) fun h2 =>
 ob (amapSet Tryz.prog h2 84 (.map (Heap.next h)) (.int .i64 (.ofNat 1)) (.func 36 [])) fun h3 =>
 ob (amapSet Tryz.prog h3 84 (.map (Heap.next h)) (.int .i64 (.ofNat 2)) (.func 37 [])) fun h4 =>
 ob (amapSet Tryz.prog h4 84 (.map (Heap.next h)) (.int .i64 (.ofNat 3)) (.func 38 [])) fun h5 =>
 ob (amapSet Tryz.prog h5 84 (.map (Heap.next h)) (.int .i64 (.ofNat 4)) (.func 39 [])) fun h6 =>
 ob (amapSet Tryz.prog h6 84 (.map (Heap.next h)) (.int .i64 (.ofNat 5)) (.func 40 [])) fun h7 =>
 ob (amapSet Tryz.prog h7 84 (.map (Heap.next h)) (.int .i64 (.ofNat 6)) (.func 41 [])) fun h8 =>
 ob (amapSet Tryz.prog h8 84 (.map (Heap.next h)) (.int .i64 (.ofNat 7)) (.func 42 [])) fun h9 =>
 ob (amapSet Tryz.prog h9 84 (.map (Heap.next h)) (.int .i64 (.ofNat 8)) (.func 43 [])) fun h10 =>
 ob (amapSet Tryz.prog h10 84 (.map (Heap.next h)) (.int .i64 (.ofNat 9)) (.func 44 [])) fun h11 =>
 ob (amapSet Tryz.prog h11 84 (.map (Heap.next h)) (.int .i64 (.ofNat 10)) (.func 45 [])) fun h12 =>
 ob (amapSet Tryz.prog h12 84 (.map (Heap.next h)) (.int .i64 (.ofNat 11)) (.func 46 [])) fun h13 =>
 (some (false, (.map (Heap.next h)), h13)))
theorem F21_ok {S : FS} {D : FD} (hS : SpecsOK Tryz.prog S) (hD : DynOK Tryz.prog D) : SpecOK Tryz.prog 21 (F21 S D) :=
  SpecOK.of (c := match Tryz.f21.body with | some c => c | none => .skip) (by kernel_rfl) hS hD ⟨Tryz.func21, rfl, by decide⟩
    (.seq .n (.seq .n .n)) 0 (fun args h => by kernel_rfl)
/-- (*roundhouse/world.World).jobs -/
noncomputable def F22 (S : FS) (D : FD) (args : List AV) (h : Heap) : Option (Bool × AV × Heap) :=
 kv1 args fun w_1 =>
 ob (knil w_1) fun v2 =>
 ob (kfa 1 v2) fun v3 =>
 ob (kload h v3) fun v4 =>
 ob (S 27 [v4] h) fun r5 => kres r5 (fun v6 h7 =>
 ob (iterD (fun vs10 ds11 h12 => kv4 vs10 fun w_13 l_14 v15 v16 =>
  ob (kbinI .lss v16 v15) fun v17 =>
  kif v17
   (ob (knil w_13) fun v18 =>
   ob (kfa 1 v18) fun v19 =>
   ob (kload h12 v19) fun v20 =>
   ob (kbinI .add v16 (.int .i64 (.ofNat 1))) fun v21 =>
   ob (S 18 [v20, v21] h12) fun r22 => kres r22 (fun v23 h24 =>
   ob (aextract v23 0) fun v27 =>
   ob (aextract v23 1) fun v28 =>
   Heap.pushK h24 (.cells [(.int .i64 (.ofNat 0)), (.int .i64 (.ofNat 0)), (.int .i64 (.ofNat 0)), (.int .i64 (.ofNat 0)), (.int .i64 (.ofNat 0)), AV.nilslice, AV.nilslice] true 59) fun h29 =>
   ob (kstore 7 (.ptr (Heap.next h24) 0) v27 h29) fun h30 =>
   ob (kloadN 7 h30 (.ptr (Heap.next h24) 0)) fun v31 =>
   ob (abuildSlice Tryz.prog 86 1 [(0, v31)]) fun r32 => Heap.pushK h30 (.cells r32.1 true r32.2.2) fun h33 =>
   ob (aappend Tryz.prog h33 86 86 l_14 (.slice (Heap.next h30) 0 1 1 r32.2.1)) fun r34 =>
   ob (kbinI .add v16 (.int .i64 (.ofNat 1))) fun v35 =>
   (some ⟨0, [w_13, r34.1, v15, v35], ds11, r34.2⟩)) (fun p25 h26 => (some ⟨2, [p25], ds11, h26⟩)))
   ((some ⟨1, [l_14], ds11, h12⟩))) rounds [w_1, AV.nilslice, v6, (.int .i64 (.ofNat 0))] [] h7) fun r36 => kcase (J.i r36) [kv1 (J.vs r36) fun l_37 =>
  (dleave (fun h38 => (some (false, l_37, h38))) (J.ds r36) (J.h r36)),
 kv1 (J.vs r36) fun p39 => (kds (J.ds r36) (some (true, p39, (J.h r36))))]) (fun p8 h9 => (some (true, p8, h9)))
theorem F22_ok {S : FS} {D : FD} (hS : SpecsOK Tryz.prog S) (hD : DynOK Tryz.prog D) : SpecOK Tryz.prog 22 (F22 S D) :=
  SpecOK.of (c := match Tryz.f22.body with | some c => c | none => .skip) (by kernel_rfl) hS hD ⟨Tryz.func22, rfl, by decide⟩
    (.seq .n (.seq .n (.seq (.seq .n (.one (.loop [0, 3, 11, 12] [(.exit 0, [3]), (.pan, [])] (.seq .n (.seq (.dup .n .n) (.seq (.one (.seq .n (.seq .n .n))) .n)))))) (.seq .n .n)))) 1 (fun args h => by kernel_rfl)
/-- (*roundhouse/world.World).look -/
noncomputable def F23 (S : FS) (D : FD) (args : List AV) (h : Heap) : Option (Bool × AV × Heap) :=
 kv2 args fun w_1 before_2 =>
 ob (knil w_1) fun v3 =>
 ob (kfa 0 v3) fun v4 =>
 ob (kload h v4) fun v5 =>
 ob (klenL v5) fun v6 =>
 ob (iterD (fun vs7 ds8 h9 => kv5 vs7 fun w_10 before_11 v12 v13 v14 =>
  ob (kbinI .lss v14 v13) fun v15 =>
  kif v15
   (ob (kia 1 v12 v14) fun v16 =>
   ob (kload h9 v16) fun v17 =>
   ob (knil w_10) fun v18 =>
   ob (kfa 6 v18) fun v19 =>
   ob (kload h9 v19) fun v20 =>
   ob (kia 1 v20 v14) fun v21 =>
   ob (kload h9 v21) fun v22 =>
   ob (S 48 [v17] h9) fun r23 => kres r23 (fun v24 h25 =>
   kre (kload h25 v21) v22 (kre (kload h25 v19) v20 (ob (aslice Tryz.prog 9 v24 (some v22) none none) fun v28 =>
   ob (S 47 [v28] h25) fun r29 => kres r29 (fun v30 h31 =>
   ob (aextract v30 0) fun v34 =>
   ob (aextract v30 1) fun v35 =>
   ob (klenL v34) fun v36 =>
   ob (iterD (fun vs37 ds38 h39 => kv10 vs37 fun w_40 before_41 id_42 good_43 v44 v45 v46 v47 v48 v49 =>
    ob (kbinI .lss v49 v48) fun v50 =>
    kif v50
     (ob (kia 2 v47 v49) fun v51 =>
     ob (kloadN 2 h39 v51) fun v52 =>
     Heap.pushK h39 (.cells [(.int .i64 (.ofNat 0)), (.str 0 0)] true 118) fun h53 =>
     ob (kstore 2 (.ptr (Heap.next h39) 0) v52 h53) fun h54 =>
     ob (kfa 1 (.ptr (Heap.next h39) 0)) fun v55 =>
     ob (kload h54 v55) fun v56 =>
     ob (S 49 [v56] h54) fun r57 => kres r57 (fun v58 h59 =>
     ob (aextract v58 0) fun v62 =>
     ob (aextract v58 1) fun v63 =>
     Heap.pushK h59 (.cells [(.int .i64 (.ofNat 0)), (.int .i64 (.ofNat 0)), (.int .i64 (.ofNat 0)), (.int .i64 (.ofNat 0)), (.int .i64 (.ofNat 0)), AV.nilslice] true 120) fun h64 =>
     ob (kstore 6 (.ptr (Heap.next h59) 0) v62 h64) fun h65 =>
     ob (knil w_40) fun v66 =>
     ob (kfa 5 v66) fun v67 =>
     ob (kload h65 v67) fun v68 =>
     ob (kfa 0 (.ptr (Heap.next h59) 0)) fun v69 =>
     ob (kload h65 v69) fun v70 =>
     ob (kfa 1 (.ptr (Heap.next h59) 0)) fun v71 =>
     ob (kload h65 v71) fun v72 =>
     ob (kfa 2 (.ptr (Heap.next h59) 0)) fun v73 =>
     ob (kload h65 v73) fun v74 =>
     ob (kfa 3 (.ptr (Heap.next h59) 0)) fun v75 =>
     ob (kload h65 v75) fun v76 =>
     ob (kfa 4 (.ptr (Heap.next h59) 0)) fun v77 =>
     ob (kload h65 v77) fun v78 =>
     ob (abuild Tryz.prog 124 [(0, v70), (1, id_42), (2, v72), (3, v74), (4, v76), (5, v78)]) fun v79 =>
     kfree h65 (ob (abuildSlice Tryz.prog 100 1 [(0, v79)]) fun r80 => Heap.pushK h65 (.cells r80.1 true r80.2.2) fun h81 =>
     ob (aappend Tryz.prog h81 100 100 v68 (.slice (Heap.next h65) 0 1 1 r80.2.1)) fun r82 =>
     ob (knil w_40) fun v83 =>
     ob (kfa 5 v83) fun v84 =>
     ob (kstore 1 v84 r82.1 r82.2) fun h85 =>
     ob (kbinI .add v49 (.int .i64 (.ofNat 1))) fun v86 =>
     (some ⟨0, [w_40, before_41, id_42, good_43, v44, v45, v46, v47, v48, v86], ds38, h85⟩))) (fun p60 h61 => (some ⟨2, [p60], ds38, h61⟩)))
     ((some ⟨1, [w_40, before_41, id_42, good_43, v44, v45, v46], ds38, h39⟩))) rounds [w_10, before_11, v14, v35, v12, v13, v14, v34, v36, (.int .i64 (.ofNat 0))] ds8 h31) fun r87 => kcase (J.i r87) [kv7 (J.vs r87) fun w_88 before_89 id_90 good_91 v92 v93 v94 =>
    ob (knil w_88) fun v95 =>
    ob (kfa 6 v95) fun v96 =>
    ob (kload (J.h r87) v96) fun v97 =>
    ob (kia 1 v97 id_90) fun v98 =>
    ob (kload (J.h r87) v98) fun v99 =>
    ob (kbinI .add v99 good_91) fun v100 =>
    ob (kia 1 v97 id_90) fun v101 =>
    ob (kstore 1 v101 v100 (J.h r87)) fun h102 =>
    ob (kbinI .add v94 (.int .i64 (.ofNat 1))) fun v103 =>
    (some ⟨0, [w_88, before_89, v92, v93, v103], (J.ds r87), h102⟩),
   kv1 (J.vs r87) fun p104 => (some ⟨2, [p104], (J.ds r87), (J.h r87)⟩)]) (fun p32 h33 => (some ⟨2, [p32], ds8, h33⟩))))) (fun p26 h27 => none))
   ((some ⟨1, [w_10, before_11], ds8, h9⟩))) rounds [w_1, before_2, v5, v6, (.int .i64 (.ofNat 0))] [] h) fun r105 => kcase (J.i r105) [kv2 (J.vs r105) fun w_106 before_107 =>
  ob (S 22 [w_106] (J.h r105)) fun r108 => kres r108 (fun v109 h110 =>
  ob (klenL v109) fun v113 =>
  ob (iterD (fun vs114 ds115 h116 => kv5 vs114 fun w_117 before_118 v119 v120 v121 =>
   ob (kbinI .lss v121 v120) fun v122 =>
   kif v122
    (ob (ob (kia 7 v119 v121) fun v124 =>
     ob (kloadN 7 h116 v124) fun v125 =>
     Heap.pushK h116 (.cells [(.int .i64 (.ofNat 0)), (.int .i64 (.ofNat 0)), (.int .i64 (.ofNat 0)), (.int .i64 (.ofNat 0)), (.int .i64 (.ofNat 0)), AV.nilslice, AV.nilslice] true 59) fun h126 =>
     ob (kstore 7 (.ptr (Heap.next h116) 0) v125 h126) fun h127 =>
     ob (klenL before_118) fun v128 =>
     ob (kbinI .geq v121 v128) fun v129 =>
     ob (kgv false v129 (some before_118)) fun v130 =>
     ob (kgv false v129 (some v121)) fun v131 =>
     ob (kgv false v129 (kia 7 v130 v131)) fun v132 =>
     ob (kgv false v129 (kfa 1 v132)) fun v133 =>
     ob (kgv false v129 (kload h127 v133)) fun v134 =>
     ob (kgv false v129 (kfa 1 (.ptr (Heap.next h116) 0))) fun v135 =>
     ob (kgv false v129 (kload h127 v135)) fun v136 =>
     ob (kgv false v129 (kbinI .neq v134 v136)) fun v137 =>
     ob (kpick v129 (.bool true) v137) fun v138 =>
     kif v138
      ((some ⟨0, [w_117, before_118, v119, v120, v121], ds115, h127⟩))
      (ob (kfa 5 (.ptr (Heap.next h116) 0)) fun v139 =>
      ob (kload h127 v139) fun v140 =>
      ob (klenL v140) fun v141 =>
      ob (iterD (fun vs142 ds143 h144 => kv9 vs142 fun w_145 before_146 i_147 j_148 v149 v150 v151 v152 v153 =>
       ob (kbinI .lss v153 v152) fun v154 =>
       kif v154
        (ob (kfa 0 j_148) fun v155 =>
        ob (kload h144 v155) fun v156 =>
        ob (kfa 1 j_148) fun v157 =>
        ob (kload h144 v157) fun v158 =>
        ob (abuild Tryz.prog 124 [(0, (.int .i64 (.ofNat 10))), (1, (.int .i64 (.negSucc 0))), (2, v156), (3, v158), (4, v153), (5, (.int .i64 (.ofNat 0)))]) fun v159 =>
        Heap.pushK h144 (.cells [(.int .i64 (.ofNat 0)), (.int .i64 (.ofNat 0)), (.int .i64 (.ofNat 0)), (.int .i64 (.ofNat 0)), (.int .i64 (.ofNat 0)), (.int .i64 (.ofNat 0))] true 124) fun h160 =>
        ob (kstore 6 (.ptr (Heap.next h144) 0) v159 h160) fun h161 =>
        ob (kfa 6 j_148) fun v162 =>
        ob (kload h161 v162) fun v163 =>
        ob (kia 1 v163 v153) fun v164 =>
        ob (kload h161 v164) fun v165 =>
        ob (S 50 [v165] h161) fun r166 => kres r166 (fun v167 h168 =>
        ob (kgv true v167 (some before_146)) fun v171 =>
        ob (kgv true v167 (some i_147)) fun v172 =>
        ob (kgv true v167 (kia 7 v171 v172)) fun v173 =>
        ob (kgv true v167 (kfa 6 v173)) fun v174 =>
        ob (kgv true v167 (kload h168 v174)) fun v175 =>
        ob (kgv true v167 (some v153)) fun v176 =>
        ob (kgv true v167 (kia 1 v175 v176)) fun v177 =>
        ob (kgv true v167 (kload h168 v177)) fun v178 =>
        ob (kgc true v167 h168 (S 50 [v178] h168)) fun r179 => kres r179 (fun v180 h181 =>
        ob (kgv true v167 (aun .not v180)) fun v184 =>
        ob (kpick v167 v184 (.bool false)) fun v185 =>
        ob (kif v185
         (ob (knil w_145) fun v187 =>
         ob (kfa 5 v187) fun v188 =>
         ob (kload h181 v188) fun v189 =>
         ob (kloadN 6 h181 (.ptr (Heap.next h144) 0)) fun v190 =>
         kfree h181 (ob (abuildSlice Tryz.prog 100 1 [(0, v190)]) fun r191 => Heap.pushK h181 (.cells r191.1 true r191.2.2) fun h192 =>
         ob (aappend Tryz.prog h192 100 100 v189 (.slice (Heap.next h181) 0 1 1 r191.2.1)) fun r193 =>
         ob (knil w_145) fun v194 =>
         ob (kfa 5 v194) fun v195 =>
         ob (kstore 1 v195 r193.1 r193.2) fun h196 =>
         (some ⟨0, [w_145, before_146, i_147, j_148, v153, (.ptr (Heap.next h144) 0), v149, v150, v151, v152, v153], ds143, h196⟩)))
         ((some ⟨0, [w_145, before_146, i_147, j_148, v153, (.ptr (Heap.next h144) 0), v149, v150, v151, v152, v153], ds143, h181⟩))) fun r186 => kcase (J.i r186) [kv11 (J.vs r186) fun w_197 before_198 i_199 j_200 k_201 x_202 v203 v204 v205 v206 v207 =>
         ob (kfa 5 j_200) fun v208 =>
         ob (kload (J.h r186) v208) fun v209 =>
         ob (kia 1 v209 k_201) fun v210 =>
         ob (kload (J.h r186) v210) fun v211 =>
         ob (kbinI .neq v211 (.int .i64 (.negSucc 0))) fun v212 =>
         ob (kgv true v212 (some before_198)) fun v213 =>
         ob (kgv true v212 (some i_199)) fun v214 =>
         ob (kgv true v212 (kia 7 v213 v214)) fun v215 =>
         ob (kgv true v212 (kfa 5 v215)) fun v216 =>
         ob (kgv true v212 (kload (J.h r186) v216)) fun v217 =>
         ob (kgv true v212 (some k_201)) fun v218 =>
         ob (kgv true v212 (kia 1 v217 v218)) fun v219 =>
         ob (kgv true v212 (kload (J.h r186) v219)) fun v220 =>
         ob (kgv true v212 (kbinI .eql v220 (.int .i64 (.negSucc 0)))) fun v221 =>
         ob (kpick v212 v221 (.bool false)) fun v222 =>
         ob (kif v222
          (ob (kfa 5 j_200) fun v224 =>
          ob (kload (J.h r186) v224) fun v225 =>
          ob (kia 1 v225 k_201) fun v226 =>
          ob (kload (J.h r186) v226) fun v227 =>
          ob (kfa 0 x_202) fun v228 =>
          ob (kstore 1 v228 (.int .i64 (.ofNat 11)) (J.h r186)) fun h229 =>
          kre (kload h229 v226) v227 (kre (kload h229 v224) v225 (ob (kfa 5 x_202) fun v230 =>
          ob (kstore 1 v230 v227 h229) fun h231 =>
          ob (knil w_197) fun v232 =>
          ob (kfa 5 v232) fun v233 =>
          ob (kload h231 v233) fun v234 =>
          ob (kloadN 6 h231 x_202) fun v235 =>
          kfree h231 (ob (abuildSlice Tryz.prog 100 1 [(0, v235)]) fun r236 => Heap.pushK h231 (.cells r236.1 true r236.2.2) fun h237 =>
          ob (aappend Tryz.prog h237 100 100 v234 (.slice (Heap.next h231) 0 1 1 r236.2.1)) fun r238 =>
          ob (knil w_197) fun v239 =>
          ob (kfa 5 v239) fun v240 =>
          ob (kstore 1 v240 r238.1 r238.2) fun h241 =>
          (some ⟨0, [w_197, before_198, i_199, j_200, v203, v204, v205, v206, v207], (J.ds r186), h241⟩)))))
          ((some ⟨0, [w_197, before_198, i_199, j_200, v203, v204, v205, v206, v207], (J.ds r186), (J.h r186)⟩))) fun r223 => kcase (J.i r223) [kv9 (J.vs r223) fun w_242 before_243 i_244 j_245 v246 v247 v248 v249 v250 =>
          ob (kbinI .add v250 (.int .i64 (.ofNat 1))) fun v251 =>
          (some ⟨0, [w_242, before_243, i_244, j_245, v246, v247, v248, v249, v251], (J.ds r223), (J.h r223)⟩)]]) (fun p182 h183 => (some ⟨2, [p182], ds143, h183⟩))) (fun p169 h170 => (some ⟨2, [p169], ds143, h170⟩)))
        ((some ⟨1, [w_145, before_146, v149, v150, v151], ds143, h144⟩))) rounds [w_117, before_118, v121, (.ptr (Heap.next h116) 0), v119, v120, v121, v141, (.int .i64 (.ofNat 0))] ds115 h127) fun r252 => kcase (J.i r252) [kv5 (J.vs r252) fun w_253 before_254 v255 v256 v257 =>
       (some ⟨0, [w_253, before_254, v255, v256, v257], (J.ds r252), (J.h r252)⟩),
      kv1 (J.vs r252) fun p258 => (some ⟨1, [p258], (J.ds r252), (J.h r252)⟩)])) fun r123 => kcase (J.i r123) [kv5 (J.vs r123) fun w_259 before_260 v261 v262 v263 =>
     ob (kbinI .add v263 (.int .i64 (.ofNat 1))) fun v264 =>
     (some ⟨0, [w_259, before_260, v261, v262, v264], (J.ds r123), (J.h r123)⟩),
    kv1 (J.vs r123) fun p265 => (some ⟨2, [p265], (J.ds r123), (J.h r123)⟩)])
    ((some ⟨1, [], ds115, h116⟩))) rounds [w_106, before_107, v109, v113, (.int .i64 (.ofNat 0))] (J.ds r105) h110) fun r266 => kcase (J.i r266) [kv0 (J.vs r266) ((dleave (fun h267 => (some (false, (.tuple []), h267))) (J.ds r266) (J.h r266))),
  kv1 (J.vs r266) fun p268 => (kds (J.ds r266) (some (true, p268, (J.h r266))))]) (fun p111 h112 => (kds (J.ds r105) (some (true, p111, h112)))),
 kv1 (J.vs r105) fun p269 => (kds (J.ds r105) (some (true, p269, (J.h r105))))]
theorem F23_ok {S : FS} {D : FD} (hS : SpecsOK Tryz.prog S) (hD : DynOK Tryz.prog D) : SpecOK Tryz.prog 23 (F23 S D) :=
  SpecOK.of (c := match Tryz.f23.body with | some c => c | none => .skip) (by kernel_rfl) hS hD ⟨Tryz.func23, rfl, by decide⟩
    (.seq (.seq .n (.one (.loop [0, 1, 19, 20, 21] [(.exit 0, [0, 1]), (.pan, [])] (.seq .n (.seq (.dup .n .n) (.seq (.one (.seq .n (.seq .n (.seq (.seq .n (.one (.loop [0, 1, 4, 7, 19, 20, 21, 40, 41, 42] [(.exit 2, [0, 1, 4, 7, 19, 20, 21]), (.pan, [])] (.seq .n (.seq (.dup .n .n) (.seq (.one (.seq .n (.seq .n .n))) .n)))))) .n)))) .n)))))) (.seq .n (.one (.loop [0, 1, 86, 87, 88] [(.exit 4, []), (.pan, [])] (.seq .n (.seq (.dup .n .n) (.seq (.join [(.norm, [0, 1, 86, 87, 88]), (.pan, [])] (.one (.seq .n (.seq (.seq .n (.dup .n .n)) (.seq .n (.one (.loop [0, 1, 12, 13, 86, 87, 88, 109, 110] [(.exit 6, [0, 1, 86, 87, 88]), (.pan, [])] (.seq .n (.seq (.dup .n .n) (.seq (.one (.seq .n (.seq .n (.seq (.seq .n (.join [(.norm, [0, 1, 12, 13, 14, 15, 86, 87, 88, 109, 110])] (.dup .n .n))) (.seq .n (.join [(.norm, [0, 1, 12, 13, 86, 87, 88, 109, 110])] (.dup (.seq .n .n) .n))))))) .n)))))))))) .n))))))) 2 (fun args h => by kernel_rfl)
/-- (*roundhouse/agent.Agent).Tasks -/
noncomputable def F24 (S : FS) (D : FD) (args : List AV) (h : Heap) : Option (Bool × AV × Heap) :=
 kv1 args fun a_1 =>
 ob (kbinO Tryz.prog .eql 35 true a_1 AV.nilptr) fun v2 =>
 kif v2
  ((some (false, AV.nilslice, h)))
  (ob (knil a_1) fun v3 =>
  ob (kfa 0 v3) fun v4 =>
  ob (kfa 1 v4) fun v5 =>
  ob (kload h v5) fun v6 =>
  ob (S 51 [v6] h) fun r7 => kres r7 (fun v8 h9 =>
  (some (false, v8, h9))) (fun p10 h11 => (some (true, p10, h11))))
theorem F24_ok {S : FS} {D : FD} (hS : SpecsOK Tryz.prog S) (hD : DynOK Tryz.prog D) : SpecOK Tryz.prog 24 (F24 S D) :=
  SpecOK.of (c := match Tryz.f24.body with | some c => c | none => .skip) (by kernel_rfl) hS hD ⟨Tryz.func24, rfl, by decide⟩
    (.seq .n (.seq (.seq .n (.dup (.seq .n .n) .n)) (.seq .n .n))) 1 (fun args h => by kernel_rfl)
/-- (*roundhouse/agent.Agent).Signalled -/
noncomputable def F25 (S : FS) (D : FD) (args : List AV) (h : Heap) : Option (Bool × AV × Heap) :=
 kv2 args fun a_1 pid_2 =>
 ob (kbinO Tryz.prog .eql 35 true a_1 AV.nilptr) fun v3 =>
 kif v3
  ((some (false, (.int .i64 (.ofNat 0)), h)))
  (ob (knil a_1) fun v4 =>
  ob (kfa 0 v4) fun v5 =>
  ob (kfa 1 v5) fun v6 =>
  ob (kload h v6) fun v7 =>
  ob (S 52 [v7, pid_2] h) fun r8 => kres r8 (fun v9 h10 =>
  (some (false, v9, h10))) (fun p11 h12 => (some (true, p11, h12))))
theorem F25_ok {S : FS} {D : FD} (hS : SpecsOK Tryz.prog S) (hD : DynOK Tryz.prog D) : SpecOK Tryz.prog 25 (F25 S D) :=
  SpecOK.of (c := match Tryz.f25.body with | some c => c | none => .skip) (by kernel_rfl) hS hD ⟨Tryz.func25, rfl, by decide⟩
    (.seq .n (.seq (.seq .n (.dup (.seq .n .n) .n)) (.seq .n .n))) 2 (fun args h => by kernel_rfl)
/-- roundhouse/audit.Count -/
noncomputable def F26 (S : FS) (D : FD) (args : List AV) (h : Heap) : Option (Bool × AV × Heap) :=
 kv1 args fun w_1 =>
 Heap.pushK h (.cells [(.int .i64 (.ofNat 0)), (.int .i64 (.ofNat 0)), (.int .i64 (.ofNat 0)), (.int .i64 (.ofNat 0))] true 95) fun h2 =>
 Heap.pushK h2 (.cells [(.int .i64 (.ofNat 0)), (.int .i64 (.ofNat 0)), (.int .i64 (.ofNat 0)), (.int .i64 (.ofNat 0))] true 95) fun h3 =>
 ob (S 53 [w_1] h3) fun r4 => kres r4 (fun v5 h6 =>
 ob (klenL v5) fun v9 =>
 ob (iterD (fun vs10 ds11 h12 => kv5 vs10 fun v13 n_14 v15 v16 v17 =>
  ob (kbinI .lss v17 v16) fun v18 =>
  kif v18
   (ob (kia 1 v15 v17) fun v19 =>
   ob (kload h12 v19) fun v20 =>
   ob (S 10 [v20] h12) fun r21 => kres r21 (fun v22 h23 =>
   ob (kif v22
    (ob (kfa 3 n_14) fun v27 =>
    ob (kload h23 v27) fun v28 =>
    ob (kbinI .add v28 (.int .i64 (.ofNat 1))) fun v29 =>
    ob (kfa 3 n_14) fun v30 =>
    ob (kstore 1 v30 v29 h23) fun h31 =>
    (some ⟨0, [v13, n_14, v20, v15, v16, v17], ds11, h31⟩))
    ((some ⟨0, [v13, n_14, v20, v15, v16, v17], ds11, h23⟩))) fun r26 => kcase (J.i r26) [kv6 (J.vs r26) fun v32 n_33 a_34 v35 v36 v37 =>
    ob (S 24 [a_34] (J.h r26)) fun r38 => kres r38 (fun v39 h40 =>
    ob (klenL v39) fun v43 =>
    ob (iterD (fun vs44 ds45 h46 => kv8 vs44 fun v47 n_48 v49 v50 v51 v52 v53 v54 =>
     ob (kbinI .lss v54 v53) fun v55 =>
     kif v55
      (ob (kia 8 v52 v54) fun v56 =>
      ob (kloadN 8 h46 v56) fun v57 =>
      Heap.pushK h46 (.cells [(.int .i64 (.ofNat 0)), (.int .i64 (.ofNat 0)), (.int .i64 (.ofNat 0)), (.int .i64 (.ofNat 0)), (.int .i64 (.ofNat 0)), AV.nilslice, (.int .i64 (.ofNat 0)), (.int .i64 (.ofNat 0))] true 92) fun h58 =>
      ob (kstore 8 (.ptr (Heap.next h46) 0) v57 h58) fun h59 =>
      ob (kfa 6 (.ptr (Heap.next h46) 0)) fun v60 =>
      ob (kload h59 v60) fun v61 =>
      ob (kbinI .eql v61 (.int .i64 (.ofNat 0))) fun v62 =>
      ob (kif v62
       (ob (kfa 0 n_48) fun v64 =>
       ob (kload h59 v64) fun v65 =>
       ob (kbinI .add v65 (.int .i64 (.ofNat 1))) fun v66 =>
       ob (kfa 0 n_48) fun v67 =>
       ob (kstore 1 v67 v66 h59) fun h68 =>
       (some ⟨0, [v47, n_48, v49, v50, v51, v52, v53, v54], ds45, h68⟩))
       (ob (kbinI .eql v61 (.int .i64 (.ofNat 1))) fun v69 =>
       ob (kif v69
        (ob (kfa 1 n_48) fun v71 =>
        ob (kload h59 v71) fun v72 =>
        ob (kbinI .add v72 (.int .i64 (.ofNat 1))) fun v73 =>
        ob (kfa 1 n_48) fun v74 =>
        ob (kstore 1 v74 v73 h59) fun h75 =>
        (some ⟨0, [v47, n_48, v49, v50, v51, v52, v53, v54], ds45, h75⟩))
        (ob (kbinI .eql v61 (.int .i64 (.ofNat 2))) fun v76 =>
        ob (kif v76
         (ob (kfa 2 n_48) fun v78 =>
         ob (kload h59 v78) fun v79 =>
         ob (kbinI .add v79 (.int .i64 (.ofNat 1))) fun v80 =>
         ob (kfa 2 n_48) fun v81 =>
         ob (kstore 1 v81 v80 h59) fun h82 =>
         (some ⟨0, [v47, n_48, v49, v50, v51, v52, v53, v54], ds45, h82⟩))
         ((some ⟨0, [v47, n_48, v49, v50, v51, v52, v53, v54], ds45, h59⟩))) fun r77 => kcase (J.i r77) [kv8 (J.vs r77) fun v83 n_84 v85 v86 v87 v88 v89 v90 =>
         (some ⟨0, [v83, n_84, v85, v86, v87, v88, v89, v90], (J.ds r77), (J.h r77)⟩)])) fun r70 => kcase (J.i r70) [kv8 (J.vs r70) fun v91 n_92 v93 v94 v95 v96 v97 v98 =>
        (some ⟨0, [v91, n_92, v93, v94, v95, v96, v97, v98], (J.ds r70), (J.h r70)⟩)])) fun r63 => kcase (J.i r63) [kv8 (J.vs r63) fun v99 n_100 v101 v102 v103 v104 v105 v106 =>
       ob (kbinI .add v106 (.int .i64 (.ofNat 1))) fun v107 =>
       (some ⟨0, [v99, n_100, v101, v102, v103, v104, v105, v107], (J.ds r63), (J.h r63)⟩)])
      ((some ⟨1, [v47, n_48, v49, v50, v51], ds45, h46⟩))) rounds [v32, n_33, v35, v36, v37, v39, v43, (.int .i64 (.ofNat 0))] (J.ds r26) h40) fun r108 => kcase (J.i r108) [kv5 (J.vs r108) fun v109 n_110 v111 v112 v113 =>
     ob (kbinI .add v113 (.int .i64 (.ofNat 1))) fun v114 =>
     (some ⟨0, [v109, n_110, v111, v112, v114], (J.ds r108), (J.h r108)⟩)]) (fun p41 h42 => (some ⟨2, [p41], (J.ds r26), h42⟩))]) (fun p24 h25 => (some ⟨2, [p24], ds11, h25⟩)))
   ((some ⟨1, [v13, n_14], ds11, h12⟩))) rounds [(.ptr (Heap.next h) 0), (.ptr (Heap.next h2) 0), v5, v9, (.int .i64 (.ofNat 0))] [] h6) fun r115 => kcase (J.i r115) [kv2 (J.vs r115) fun v116 n_117 =>
  ob (kloadN 4 (J.h r115) n_117) fun v118 =>
  ob (kstore 4 v116 v118 (J.h r115)) fun h119 =>
  (dleave (fun h120 => ob (kloadN 4 h120 v116) fun v121 => (some (false, v121, h120))) (J.ds r115) h119),
 kv1 (J.vs r115) fun p122 => (kds (J.ds r115) (some (true, p122, (J.h r115))))]) (fun p7 h8 => (some (true, p7, h8)))
theorem F26_ok {S : FS} {D : FD} (hS : SpecsOK Tryz.prog S) (hD : DynOK Tryz.prog D) : SpecOK Tryz.prog 26 (F26 S D) :=
  SpecOK.of (c := match Tryz.f26.body with | some c => c | none => .skip) (by kernel_rfl) hS hD ⟨Tryz.func26, rfl, by decide⟩
    (.seq .n (.seq .n (.seq (.seq .n (.one (.loop [2, 3, 9, 10, 11] [(.exit 0, [2, 3]), (.pan, [])] (.seq .n (.seq (.dup .n .n) (.seq (.one (.seq .n (.seq (.seq .n (.join [(.norm, [2, 3, 5, 9, 10, 11])] (.dup .n .n))) (.seq .n (.one (.loop [2, 3, 9, 10, 11, 22, 23, 24] [(.exit 2, [2, 3, 9, 10, 11])] (.seq .n (.seq (.dup .n .n) (.seq (.one (.seq .n (.seq .n (.one (.seq .n (.join [(.norm, [2, 3, 9, 10, 11, 22, 23, 24])] (.dup .n (.seq .n (.join [(.norm, [2, 3, 9, 10, 11, 22, 23, 24])] (.dup .n (.seq .n (.join [(.norm, [2, 3, 9, 10, 11, 22, 23, 24])] (.dup .n .n))))))))))))) .n))))))))) .n)))))) (.seq .n .n)))) 1 (fun args h => by kernel_rfl)
end Go.Rh.Tryz
