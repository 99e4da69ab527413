/- Printed by wip/tools/gen.py: functions of the program as plain functions over abstract values, each with its proof. -/
import Derived.Test.YtepgjdoablhgmaaGreatProg
import Derived.Test.YtepgjdoablhgmaaGreatRh3
set_option maxRecDepth 1000000
set_option linter.unusedVariables false
namespace Go.Rh.Tryz
open Go.Proofs
/-- gosem.cut.init -/
noncomputable def F2 (S : FS) (D : FD) (args : List AV) (h : Heap) : Option (Bool × AV × Heap) :=
 kv0 args (ob (S 1 [] h) fun r1 => kres r1 (fun v2 h3 =>
 (some (false, (.tuple []), h3))) (fun p4 h5 => (some (true, p4, h5))))
theorem F2_ok {S : FS} {D : FD} (hS : SpecsOK Tryz.prog S) (hD : DynOK Tryz.prog D) : SpecOK Tryz.prog 2 (F2 S D) :=
  SpecOK.of (c := match Tryz.f2.body with | some c => c | none => .skip) (by kernel_rfl) hS hD ⟨Tryz.func2, rfl, by decide⟩
    .n 0 (fun args h => by kernel_rfl)
/-- roundhouse/roundhouselaw22.AuditNil -/
noncomputable def F3 (S : FS) (D : FD) (args : List AV) (h : Heap) : Option (Bool × AV × Heap) :=
 kv1 args fun n_1 =>
 ob (S 4 [AV.nilptr, n_1] h) fun r2 => kres r2 (fun v3 h4 =>
 ob (klenL v3) fun v7 =>
 ob (kbinI .eql v7 (.int .i64 (.ofNat 0))) fun v8 =>
 ob (kgc true v8 h4 (S 5 [AV.nilptr] h4)) fun r9 => kres r9 (fun v10 h11 =>
 ob (kgv true v8 (abuild Tryz.prog 25 [])) fun v14 =>
 ob (kgv true v8 (kbinO Tryz.prog .eql 25 false v10 v14)) fun v15 =>
 ob (kpick v8 v15 (.bool false)) fun v16 =>
 ob (kgc true v16 h11 (S 6 [AV.nilptr] h11)) fun r17 => kres r17 (fun v18 h19 =>
 ob (kgv true v16 (kbinI .eql v18 (.int .i64 (.ofNat 1)))) fun v22 =>
 ob (kpick v16 v22 (.bool false)) fun v23 =>
 ob (kgc true v23 h19 (S 7 [AV.nilptr] h19)) fun r24 => kres r24 (fun v25 h26 =>
 ob (kgv true v23 (aun .not v25)) fun v29 =>
 ob (kpick v23 v29 (.bool false)) fun v30 =>
 ob (kgc true v30 h26 (S 8 [] h26)) fun r31 => kres r31 (fun v32 h33 =>
 ob (kpick v30 v32 (.bool false)) fun v36 =>
 (some (false, v36, h33))) (fun p34 h35 => (some (true, p34, h35)))) (fun p27 h28 => (some (true, p27, h28)))) (fun p20 h21 => (some (true, p20, h21)))) (fun p12 h13 => (some (true, p12, h13)))) (fun p5 h6 => (some (true, p5, h6)))
theorem F3_ok {S : FS} {D : FD} (hS : SpecsOK Tryz.prog S) (hD : DynOK Tryz.prog D) : SpecOK Tryz.prog 3 (F3 S D) :=
  SpecOK.of (c := match Tryz.f3.body with | some c => c | none => .skip) (by kernel_rfl) hS hD ⟨Tryz.func3, rfl, by decide⟩
    (.seq .n (.seq .n .n)) 1 (fun args h => by kernel_rfl)
/-- roundhouse/audit.Owners -/
noncomputable def F4 (S : FS) (D : FD) (args : List AV) (h : Heap) : Option (Bool × AV × Heap) :=
 kv2 args fun w_1 node_2 =>
 ob (S 9 [w_1, node_2] h) fun r3 => kres r3 (fun v4 h5 =>
 ob (S 10 [v4] h5) fun r8 => kres r8 (fun v9 h10 =>
 ob (klenL v9) fun v13 =>
 ob (iterD (fun vs14 ds15 h16 => kv4 vs14 fun l_17 v18 v19 v20 =>
  ob (kbinI .lss v20 v19) fun v21 =>
  kif v21
   (ob (kia 8 v18 v20) fun v22 =>
   ob (kloadN 8 h16 v22) fun v23 =>
   Heap.pushK h16 (.cells [(.int .i64 (.ofNat 0)), (.int .i64 (.ofNat 0)), (.int .i64 (.ofNat 0)), (.int .i64 (.ofNat 0)), (.int .i64 (.ofNat 0)), AV.nilslice, (.int .i64 (.ofNat 0)), (.int .i64 (.ofNat 0))] true 39) fun h24 =>
   ob (kstore 8 (.ptr (Heap.next h16) 0) v23 h24) fun h25 =>
   ob (kfa 5 (.ptr (Heap.next h16) 0)) fun v26 =>
   ob (kload h25 v26) fun v27 =>
   ob (klenL v27) fun v28 =>
   ob (iterD (fun vs29 ds30 h31 => kv8 vs29 fun l_32 x_33 v34 v35 v36 v37 v38 v39 =>
    ob (kbinI .lss v39 v38) fun v40 =>
    kif v40
     (ob (kia 1 v37 v39) fun v41 =>
     ob (kload h31 v41) fun v42 =>
     ob (kfa 0 x_33) fun v43 =>
     ob (kload h31 v43) fun v44 =>
     ob (kfa 1 x_33) fun v45 =>
     ob (kload h31 v45) fun v46 =>
     ob (kfa 2 x_33) fun v47 =>
     ob (kload h31 v47) fun v48 =>
     ob (kfa 3 x_33) fun v49 =>
     ob (kload h31 v49) fun v50 =>
     ob (kfa 4 x_33) fun v51 =>
     ob (kload h31 v51) fun v52 =>
     ob (abuild Tryz.prog 41 [(0, v42), (1, v44), (2, v46), (3, v48), (4, v50), (5, v52)]) fun v53 =>
     ob (abuildSlice Tryz.prog 22 1 [(0, v53)]) fun r54 => Heap.pushK h31 (.cells r54.1 true r54.2.2) fun h55 =>
     ob (aappend Tryz.prog h55 22 22 l_32 (.slice (Heap.next h31) 0 1 1 r54.2.1)) fun r56 =>
     ob (kbinI .add v39 (.int .i64 (.ofNat 1))) fun v57 =>
     (some ⟨0, [r56.1, x_33, v34, v35, v36, v37, v38, v57], ds30, r56.2⟩))
     ((some ⟨1, [l_32, v34, v35, v36], ds30, h31⟩))) rounds [l_17, (.ptr (Heap.next h16) 0), v18, v19, v20, v27, v28, (.int .i64 (.ofNat 0))] ds15 h25) fun r58 => kcase (J.i r58) [kv4 (J.vs r58) fun l_59 v60 v61 v62 =>
    ob (kbinI .add v62 (.int .i64 (.ofNat 1))) fun v63 =>
    (some ⟨0, [l_59, v60, v61, v63], (J.ds r58), (J.h r58)⟩)])
   ((some ⟨1, [l_17], ds15, h16⟩))) rounds [AV.nilslice, v9, v13, (.int .i64 (.ofNat 0))] [] h10) fun r64 => kcase (J.i r64) [kv1 (J.vs r64) fun l_65 =>
  ob (S 11 [l_65, (.func 12 [])] (J.h r64)) fun r66 => kres r66 (fun v67 h68 =>
  (dleave (fun h71 => (some (false, l_65, h71))) (J.ds r64) h68)) (fun p69 h70 => (kds (J.ds r64) (some (true, p69, h70))))]) (fun p11 h12 => (some (true, p11, h12)))) (fun p6 h7 => (some (true, p6, h7)))
theorem F4_ok {S : FS} {D : FD} (hS : SpecsOK Tryz.prog S) (hD : DynOK Tryz.prog D) : SpecOK Tryz.prog 4 (F4 S D) :=
  SpecOK.of (c := match Tryz.f4.body with | some c => c | none => .skip) (by kernel_rfl) hS hD ⟨Tryz.func4, rfl, by decide⟩
    (.seq .n (.seq .n (.seq (.seq .n (.one (.loop [5, 13, 14, 15] [(.exit 0, [5])] (.seq .n (.seq (.dup .n .n) (.seq (.one (.seq .n (.seq .n (.one (.loop [5, 7, 13, 14, 15, 20, 21, 22] [(.exit 2, [5, 13, 14, 15])] (.seq .n (.seq (.dup .n .n) (.seq (.one (.seq .n .n)) .n)))))))) .n)))))) (.seq .n (.seq .n .n))))) 2 (fun args h => by kernel_rfl)
/-- roundhouse/audit.Count -/
noncomputable def F5 (S : FS) (D : FD) (args : List AV) (h : Heap) : Option (Bool × AV × Heap) :=
 kv1 args fun w_1 =>
 Heap.pushK h (.cells [(.int .i64 (.ofNat 0)), (.int .i64 (.ofNat 0)), (.int .i64 (.ofNat 0)), (.int .i64 (.ofNat 0))] true 25) fun h2 =>
 Heap.pushK h2 (.cells [(.int .i64 (.ofNat 0)), (.int .i64 (.ofNat 0)), (.int .i64 (.ofNat 0)), (.int .i64 (.ofNat 0))] true 25) fun h3 =>
 ob (S 13 [w_1] h3) fun r4 => kres r4 (fun v5 h6 =>
 ob (klenL v5) fun v9 =>
 ob (iterD (fun vs10 ds11 h12 => kv5 vs10 fun v13 n_14 v15 v16 v17 =>
  ob (kbinI .lss v17 v16) fun v18 =>
  kif v18
   (ob (kia 1 v15 v17) fun v19 =>
   ob (kload h12 v19) fun v20 =>
   ob (S 14 [v20] h12) fun r21 => kres r21 (fun v22 h23 =>
   ob (kif v22
    (ob (kfa 3 n_14) fun v27 =>
    ob (kload h23 v27) fun v28 =>
    ob (kbinI .add v28 (.int .i64 (.ofNat 1))) fun v29 =>
    ob (kfa 3 n_14) fun v30 =>
    ob (kstore 1 v30 v29 h23) fun h31 =>
    (some ⟨0, [v13, n_14, v20, v15, v16, v17], ds11, h31⟩))
    ((some ⟨0, [v13, n_14, v20, v15, v16, v17], ds11, h23⟩))) fun r26 => kcase (J.i r26) [kv6 (J.vs r26) fun v32 n_33 a_34 v35 v36 v37 =>
    ob (S 10 [a_34] (J.h r26)) fun r38 => kres r38 (fun v39 h40 =>
    ob (klenL v39) fun v43 =>
    ob (iterD (fun vs44 ds45 h46 => kv8 vs44 fun v47 n_48 v49 v50 v51 v52 v53 v54 =>
     ob (kbinI .lss v54 v53) fun v55 =>
     kif v55
      (ob (kia 8 v52 v54) fun v56 =>
      ob (kloadN 8 h46 v56) fun v57 =>
      Heap.pushK h46 (.cells [(.int .i64 (.ofNat 0)), (.int .i64 (.ofNat 0)), (.int .i64 (.ofNat 0)), (.int .i64 (.ofNat 0)), (.int .i64 (.ofNat 0)), AV.nilslice, (.int .i64 (.ofNat 0)), (.int .i64 (.ofNat 0))] true 39) fun h58 =>
      ob (kstore 8 (.ptr (Heap.next h46) 0) v57 h58) fun h59 =>
      ob (kfa 6 (.ptr (Heap.next h46) 0)) fun v60 =>
      ob (kload h59 v60) fun v61 =>
      ob (kbinI .eql v61 (.int .i64 (.ofNat 0))) fun v62 =>
      ob (kif v62
       (ob (kfa 0 n_48) fun v64 =>
       ob (kload h59 v64) fun v65 =>
       ob (kbinI .add v65 (.int .i64 (.ofNat 1))) fun v66 =>
       ob (kfa 0 n_48) fun v67 =>
       ob (kstore 1 v67 v66 h59) fun h68 =>
       (some ⟨0, [v47, n_48, v49, v50, v51, v52, v53, v54], ds45, h68⟩))
       (ob (kbinI .eql v61 (.int .i64 (.ofNat 1))) fun v69 =>
       ob (kif v69
        (ob (kfa 1 n_48) fun v71 =>
        ob (kload h59 v71) fun v72 =>
        ob (kbinI .add v72 (.int .i64 (.ofNat 1))) fun v73 =>
        ob (kfa 1 n_48) fun v74 =>
        ob (kstore 1 v74 v73 h59) fun h75 =>
        (some ⟨0, [v47, n_48, v49, v50, v51, v52, v53, v54], ds45, h75⟩))
        (ob (kbinI .eql v61 (.int .i64 (.ofNat 2))) fun v76 =>
        ob (kif v76
         (ob (kfa 2 n_48) fun v78 =>
         ob (kload h59 v78) fun v79 =>
         ob (kbinI .add v79 (.int .i64 (.ofNat 1))) fun v80 =>
         ob (kfa 2 n_48) fun v81 =>
         ob (kstore 1 v81 v80 h59) fun h82 =>
         (some ⟨0, [v47, n_48, v49, v50, v51, v52, v53, v54], ds45, h82⟩))
         ((some ⟨0, [v47, n_48, v49, v50, v51, v52, v53, v54], ds45, h59⟩))) fun r77 => kcase (J.i r77) [kv8 (J.vs r77) fun v83 n_84 v85 v86 v87 v88 v89 v90 =>
         (some ⟨0, [v83, n_84, v85, v86, v87, v88, v89, v90], (J.ds r77), (J.h r77)⟩)])) fun r70 => kcase (J.i r70) [kv8 (J.vs r70) fun v91 n_92 v93 v94 v95 v96 v97 v98 =>
        (some ⟨0, [v91, n_92, v93, v94, v95, v96, v97, v98], (J.ds r70), (J.h r70)⟩)])) fun r63 => kcase (J.i r63) [kv8 (J.vs r63) fun v99 n_100 v101 v102 v103 v104 v105 v106 =>
       ob (kbinI .add v106 (.int .i64 (.ofNat 1))) fun v107 =>
       (some ⟨0, [v99, n_100, v101, v102, v103, v104, v105, v107], (J.ds r63), (J.h r63)⟩)])
      ((some ⟨1, [v47, n_48, v49, v50, v51], ds45, h46⟩))) rounds [v32, n_33, v35, v36, v37, v39, v43, (.int .i64 (.ofNat 0))] (J.ds r26) h40) fun r108 => kcase (J.i r108) [kv5 (J.vs r108) fun v109 n_110 v111 v112 v113 =>
     ob (kbinI .add v113 (.int .i64 (.ofNat 1))) fun v114 =>
     (some ⟨0, [v109, n_110, v111, v112, v114], (J.ds r108), (J.h r108)⟩)]) (fun p41 h42 => (some ⟨2, [p41], (J.ds r26), h42⟩))]) (fun p24 h25 => (some ⟨2, [p24], ds11, h25⟩)))
   ((some ⟨1, [v13, n_14], ds11, h12⟩))) rounds [(.ptr (Heap.next h) 0), (.ptr (Heap.next h2) 0), v5, v9, (.int .i64 (.ofNat 0))] [] h6) fun r115 => kcase (J.i r115) [kv2 (J.vs r115) fun v116 n_117 =>
  ob (kloadN 4 (J.h r115) n_117) fun v118 =>
  ob (kstore 4 v116 v118 (J.h r115)) fun h119 =>
  (dleave (fun h120 => ob (kloadN 4 h120 v116) fun v121 => (some (false, v121, h120))) (J.ds r115) h119),
 kv1 (J.vs r115) fun p122 => (kds (J.ds r115) (some (true, p122, (J.h r115))))]) (fun p7 h8 => (some (true, p7, h8)))
theorem F5_ok {S : FS} {D : FD} (hS : SpecsOK Tryz.prog S) (hD : DynOK Tryz.prog D) : SpecOK Tryz.prog 5 (F5 S D) :=
  SpecOK.of (c := match Tryz.f5.body with | some c => c | none => .skip) (by kernel_rfl) hS hD ⟨Tryz.func5, rfl, by decide⟩
    (.seq .n (.seq .n (.seq (.seq .n (.one (.loop [2, 3, 9, 10, 11] [(.exit 0, [2, 3]), (.pan, [])] (.seq .n (.seq (.dup .n .n) (.seq (.one (.seq .n (.seq (.seq .n (.join [(.norm, [2, 3, 5, 9, 10, 11])] (.dup .n .n))) (.seq .n (.one (.loop [2, 3, 9, 10, 11, 22, 23, 24] [(.exit 2, [2, 3, 9, 10, 11])] (.seq .n (.seq (.dup .n .n) (.seq (.one (.seq .n (.seq .n (.one (.seq .n (.join [(.norm, [2, 3, 9, 10, 11, 22, 23, 24])] (.dup .n (.seq .n (.join [(.norm, [2, 3, 9, 10, 11, 22, 23, 24])] (.dup .n (.seq .n (.join [(.norm, [2, 3, 9, 10, 11, 22, 23, 24])] (.dup .n .n))))))))))))) .n))))))))) .n)))))) (.seq .n .n)))) 1 (fun args h => by kernel_rfl)
/-- roundhouse/audit.Check -/
noncomputable def F6 (S : FS) (D : FD) (args : List AV) (h : Heap) : Option (Bool × AV × Heap) :=
 kv1 args fun w_1 =>
 ob (kbinO Tryz.prog .eql 32 true w_1 AV.nilptr) fun v2 =>
 kif v2
  ((some (false, (.int .i64 (.ofNat 1)), h)))
  (ob (S 15 [w_1] h) fun r3 => kres r3 (fun v4 h5 =>
  ob (iterD (fun vs8 ds9 h10 => kv3 vs8 fun w_11 v12 v13 =>
   ob (kbinI .lss v13 v12) fun v14 =>
   kif v14
    (ob (S 16 [w_11, v13] h10) fun r15 => kres r15 (fun v16 h17 =>
    ob (kbinI .neq v16 (.int .i64 (.ofNat 0))) fun v20 =>
    kif v20
     ((some ⟨2, [v16], ds9, h17⟩))
     (ob (kbinI .add v13 (.int .i64 (.ofNat 1))) fun v21 =>
     (some ⟨0, [w_11, v12, v21], ds9, h17⟩))) (fun p18 h19 => (some ⟨3, [p18], ds9, h19⟩)))
    ((some ⟨1, [w_11], ds9, h10⟩))) rounds [w_1, v4, (.int .i64 (.ofNat 0))] [] h5) fun r22 => kcase (J.i r22) [kv1 (J.vs r22) fun w_23 =>
   ob (S 17 [w_23] (J.h r22)) fun r24 => kres r24 (fun v25 h26 =>
   ob (kbinI .neq v25 (.int .i64 (.ofNat 0))) fun v29 =>
   kif v29
    ((dleave (fun h30 => (some (false, (.int .i64 (.ofNat 5)), h30))) (J.ds r22) h26))
    ((dleave (fun h31 => (some (false, (.int .i64 (.ofNat 0)), h31))) (J.ds r22) h26))) (fun p27 h28 => (kds (J.ds r22) (some (true, p27, h28)))),
  kv1 (J.vs r22) fun v32 =>
   (dleave (fun h33 => (some (false, v32, h33))) (J.ds r22) (J.h r22)),
  kv1 (J.vs r22) fun p34 => (kds (J.ds r22) (some (true, p34, (J.h r22))))]) (fun p6 h7 => (some (true, p6, h7))))
theorem F6_ok {S : FS} {D : FD} (hS : SpecsOK Tryz.prog S) (hD : DynOK Tryz.prog D) : SpecOK Tryz.prog 6 (F6 S D) :=
  SpecOK.of (c := match Tryz.f6.body with | some c => c | none => .skip) (by kernel_rfl) hS hD ⟨Tryz.func6, rfl, by decide⟩
    (.seq .n (.seq (.seq .n (.dup (.seq .n .n) .n)) (.seq (.seq .n (.one (.loop [0, 8, 9] [(.exit 0, [0]), (.ret, [2]), (.pan, [])] (.seq .n (.seq (.dup .n .n) (.seq (.one (.seq .n (.seq .n (.seq .n (.dup (.seq .n .n) .n))))) .n)))))) (.seq (.seq .n (.dup (.seq .n .n) .n)) (.seq .n .n))))) 1 (fun args h => by kernel_rfl)
/-- roundhouse/audit.Idle -/
noncomputable def F7 (S : FS) (D : FD) (args : List AV) (h : Heap) : Option (Bool × AV × Heap) :=
 kv1 args fun w_1 =>
 ob (kbinO Tryz.prog .eql 32 true w_1 AV.nilptr) fun v2 =>
 ob (kgv false v2 (some w_1)) fun v3 =>
 ob (kgc false v2 h (S 5 [v3] h)) fun r4 => kres r4 (fun v5 h6 =>
 ob (kgv false v2 (abuild Tryz.prog 25 [])) fun v9 =>
 ob (kgv false v2 (kbinO Tryz.prog .neq 25 false v5 v9)) fun v10 =>
 ob (kpick v2 (.bool true) v10) fun v11 =>
 kif v11
  ((some (false, (.bool false), h6)))
  (ob (S 18 [w_1] h6) fun r12 => kres r12 (fun v13 h14 =>
  ob (S 19 [v13] h14) fun r17 => kres r17 (fun v18 h19 =>
  ob (iterD (fun vs22 ds23 h24 => kv3 vs22 fun w_25 v26 v27 =>
   ob (kbinI .lss v27 v26) fun v28 =>
   kif v28
    (ob (S 18 [w_25] h24) fun r29 => kres r29 (fun v30 h31 =>
    ob (kbinI .add v27 (.int .i64 (.ofNat 1))) fun v34 =>
    ob (S 20 [v30, v34] h31) fun r35 => kres r35 (fun v36 h37 =>
    ob (aextract v36 0) fun v40 =>
    ob (aextract v36 1) fun v41 =>
    Heap.pushK h37 (.cells [(.int .i64 (.ofNat 0)), (.int .i64 (.ofNat 0)), (.int .i64 (.ofNat 0)), (.int .i64 (.ofNat 0)), (.int .i64 (.ofNat 0)), AV.nilslice, AV.nilslice] true 51) fun h42 =>
    ob (kstore 7 (.ptr (Heap.next h37) 0) v40 h42) fun h43 =>
    ob (kfa 2 (.ptr (Heap.next h37) 0)) fun v44 =>
    ob (kload h43 v44) fun v45 =>
    ob (kbinI .neq v45 (.int .i64 (.ofNat 3))) fun v46 =>
    kif v46
     ((some ⟨2, [(.bool false)], ds23, h43⟩))
     (ob (kbinI .add v27 (.int .i64 (.ofNat 1))) fun v47 =>
     (some ⟨0, [w_25, v26, v47], ds23, h43⟩))) (fun p38 h39 => (some ⟨3, [p38], ds23, h39⟩))) (fun p32 h33 => (some ⟨3, [p32], ds23, h33⟩)))
    ((some ⟨1, [], ds23, h24⟩))) rounds [w_1, v18, (.int .i64 (.ofNat 0))] [] h19) fun r48 => kcase (J.i r48) [kv0 (J.vs r48) ((dleave (fun h49 => (some (false, (.bool true), h49))) (J.ds r48) (J.h r48))),
  kv1 (J.vs r48) fun v50 =>
   (dleave (fun h51 => (some (false, v50, h51))) (J.ds r48) (J.h r48)),
  kv1 (J.vs r48) fun p52 => (kds (J.ds r48) (some (true, p52, (J.h r48))))]) (fun p20 h21 => (some (true, p20, h21)))) (fun p15 h16 => (some (true, p15, h16))))) (fun p7 h8 => (some (true, p7, h8)))
theorem F7_ok {S : FS} {D : FD} (hS : SpecsOK Tryz.prog S) (hD : DynOK Tryz.prog D) : SpecOK Tryz.prog 7 (F7 S D) :=
  SpecOK.of (c := match Tryz.f7.body with | some c => c | none => .skip) (by kernel_rfl) hS hD ⟨Tryz.func7, rfl, by decide⟩
    (.seq .n (.seq (.seq .n (.dup (.seq .n .n) .n)) (.seq (.seq .n (.one (.loop [0, 16, 17] [(.exit 0, []), (.ret, [2]), (.pan, [])] (.seq .n (.seq (.dup .n .n) (.seq (.one (.seq .n (.seq .n (.seq .n (.dup (.seq .n .n) .n))))) .n)))))) (.seq .n .n)))) 1 (fun args h => by kernel_rfl)
/-- roundhouse/roundhouselaw22.live -/
noncomputable def F8 (S : FS) (D : FD) (args : List AV) (h : Heap) : Option (Bool × AV × Heap) :=
 kv0 args (ob (abuild Tryz.prog 57 [(0, (.int .i64 (.ofNat 1))), (1, (.int .i64 (.ofNat 4)))]) fun v1 =>
 ob (abuildSlice Tryz.prog 58 1 [(0, v1)]) fun r2 => Heap.pushK h (.cells r2.1 true r2.2.2) fun h3 =>
 ob (abuild Tryz.prog 60 [(0, (.slice (Heap.next h) 0 1 1 r2.2.1)), (1, (.str 1 107)), (2, (.int .i64 (.ofNat 1)))]) fun v4 =>
 ob (S 21 [v4] h3) fun r5 => kres r5 (fun v6 h7 =>
 ob (aextract v6 0) fun v10 =>
 ob (aextract v6 1) fun v11 =>
 ob (kbinI .neq v11 (.int .i64 (.ofNat 0))) fun v12 =>
 ob (kgv false v12 (some v10)) fun v13 =>
 ob (kgv false v12 (kbinO Tryz.prog .eql 32 true v13 AV.nilptr)) fun v14 =>
 ob (kpick v12 (.bool true) v14) fun v15 =>
 kif v15
  ((some (false, (.bool false), h7)))
  (ob (S 7 [v10] h7) fun r16 => kres r16 (fun v17 h18 =>
  ob (abuildSlice Tryz.prog 37 1 [(0, (.int .i64 (.ofNat 0)))]) fun r21 => Heap.pushK h18 (.cells r21.1 true r21.2.2) fun h22 =>
  ob (abuild Tryz.prog 64 [(0, (.int .i64 (.ofNat 2))), (1, (.int .i64 (.ofNat 2))), (3, (.int .i64 (.ofNat 5)))]) fun v23 =>
  ob (abuildSlice Tryz.prog 65 1 [(0, v23)]) fun r24 => Heap.pushK h22 (.cells r24.1 true r24.2.2) fun h25 =>
  ob (abuild Tryz.prog 67 [(0, (.slice (Heap.next h18) 0 1 1 r21.2.1)), (1, (.slice (Heap.next h22) 0 1 1 r24.2.1))]) fun v26 =>
  ob (abuild Tryz.prog 69 [(4, v26)]) fun v27 =>
  ob (S 22 [v10, v27] h25) fun r28 => kres r28 (fun v29 h30 =>
  ob (iterD (fun vs33 ds34 h35 => kv3 vs33 fun w_36 idle_37 i_38 =>
   ob (kbinI .lss i_38 (.int .i64 (.ofNat 2))) fun v39 =>
   kif v39
    (ob (abuild Tryz.prog 69 [(0, (.int .i64 (.ofNat 2)))]) fun v40 =>
    ob (S 22 [w_36, v40] h35) fun r41 => kres r41 (fun v42 h43 =>
    ob (abuild Tryz.prog 69 [(0, (.int .i64 (.ofNat 3)))]) fun v46 =>
    ob (S 22 [w_36, v46] h43) fun r47 => kres r47 (fun v48 h49 =>
    ob (abuild Tryz.prog 69 [(0, (.int .i64 (.ofNat 3)))]) fun v52 =>
    ob (S 22 [w_36, v52] h49) fun r53 => kres r53 (fun v54 h55 =>
    ob (kbinI .add i_38 (.int .i64 (.ofNat 1))) fun v58 =>
    (some ⟨0, [w_36, idle_37, v58], ds34, h55⟩)) (fun p56 h57 => (some ⟨2, [p56], ds34, h57⟩))) (fun p50 h51 => (some ⟨2, [p50], ds34, h51⟩))) (fun p44 h45 => (some ⟨2, [p44], ds34, h45⟩)))
    ((some ⟨1, [w_36, idle_37], ds34, h35⟩))) rounds [v10, v17, (.int .i64 (.ofNat 0))] [] h30) fun r59 => kcase (J.i r59) [kv2 (J.vs r59) fun w_60 idle_61 =>
   ob (S 4 [w_60, (.int .i64 (.ofNat 0))] (J.h r59)) fun r62 => kres r62 (fun v63 h64 =>
   ob (S 5 [w_60] h64) fun r67 => kres r67 (fun v68 h69 =>
   Heap.pushK h69 (.cells [(.int .i64 (.ofNat 0)), (.int .i64 (.ofNat 0)), (.int .i64 (.ofNat 0)), (.int .i64 (.ofNat 0))] true 25) fun h72 =>
   ob (kstore 4 (.ptr (Heap.next h69) 0) v68 h72) fun h73 =>
   ob (abuild Tryz.prog 69 [(0, (.int .i64 (.ofNat 9)))]) fun v74 =>
   ob (S 22 [w_60, v74] h73) fun r75 => kres r75 (fun v76 h77 =>
   ob (S 5 [w_60] h77) fun r80 => kres r80 (fun v81 h82 =>
   Heap.pushK h82 (.cells [(.int .i64 (.ofNat 0)), (.int .i64 (.ofNat 0)), (.int .i64 (.ofNat 0)), (.int .i64 (.ofNat 0))] true 25) fun h85 =>
   ob (kstore 4 (.ptr (Heap.next h82) 0) v81 h85) fun h86 =>
   ob (klenL v63) fun v87 =>
   ob (kbinI .neq v87 (.int .i64 (.ofNat 4))) fun v88 =>
   kif v88
    ((dleave (fun h89 => (some (false, (.bool false), h89))) (J.ds r59) h86))
    (ob (kgv true idle_61 (some w_60)) fun v90 =>
    ob (kgc true idle_61 h86 (S 7 [v90] h86)) fun r91 => kres r91 (fun v92 h93 =>
    ob (kgv true idle_61 (aun .not v92)) fun v96 =>
    ob (kpick idle_61 v96 (.bool false)) fun v97 =>
    ob (kgv true v97 (some v63)) fun v98 =>
    ob (kgv true v97 (kia 6 v98 (.int .i64 (.ofNat 2)))) fun v99 =>
    ob (kgv true v97 (kloadN 6 h93 v99)) fun v100 =>
    ob (kgv true v97 (abuild Tryz.prog 41 [(0, (.int .i64 (.ofNat 2))), (1, (.int .i64 (.ofNat 2))), (2, (.int .i64 (.ofNat 1))), (5, (.int .i64 (.ofNat 1)))])) fun v101 =>
    ob (kgv true v97 (kbinO Tryz.prog .eql 41 false v100 v101)) fun v102 =>
    ob (kpick v97 v102 (.bool false)) fun v103 =>
    ob (kgv true v103 (kloadN 4 h93 (.ptr (Heap.next h69) 0))) fun v104 =>
    ob (kgv true v103 (abuild Tryz.prog 25 [(0, (.int .i64 (.ofNat 2)))])) fun v105 =>
    ob (kgv true v103 (kbinO Tryz.prog .eql 25 false v104 v105)) fun v106 =>
    ob (kpick v103 v106 (.bool false)) fun v107 =>
    ob (kgv true v107 (kloadN 4 h93 (.ptr (Heap.next h82) 0))) fun v108 =>
    ob (kgv true v107 (abuild Tryz.prog 25 [(0, (.int .i64 (.ofNat 2))), (3, (.int .i64 (.ofNat 1)))])) fun v109 =>
    ob (kgv true v107 (kbinO Tryz.prog .eql 25 false v108 v109)) fun v110 =>
    ob (kpick v107 v110 (.bool false)) fun v111 =>
    ob (kgv true v111 (some w_60)) fun v112 =>
    ob (kgc true v111 h93 (S 6 [v112] h93)) fun r113 => kres r113 (fun v114 h115 =>
    ob (kgv true v111 (kbinI .eql v114 (.int .i64 (.ofNat 0)))) fun v118 =>
    ob (kpick v111 v118 (.bool false)) fun v119 =>
    ob (kgc true v119 h115 (S 6 [AV.nilptr] h115)) fun r120 => kres r120 (fun v121 h122 =>
    ob (kgv true v119 (kbinI .eql v121 (.int .i64 (.ofNat 1)))) fun v125 =>
    ob (kpick v119 v125 (.bool false)) fun v126 =>
    ob (kgv true v126 (some w_60)) fun v127 =>
    ob (kgc true v126 h122 (S 4 [v127, (.int .i64 (.ofNat 1))] h122)) fun r128 => kres r128 (fun v129 h130 =>
    ob (kgv true v126 (klenL v129)) fun v133 =>
    ob (kgv true v126 (kbinI .eql v133 (.int .i64 (.ofNat 0)))) fun v134 =>
    ob (kpick v126 v134 (.bool false)) fun v135 =>
    (dleave (fun h136 => (some (false, v135, h136))) (J.ds r59) h130)) (fun p131 h132 => (kds (J.ds r59) (some (true, p131, h132))))) (fun p123 h124 => (kds (J.ds r59) (some (true, p123, h124))))) (fun p116 h117 => (kds (J.ds r59) (some (true, p116, h117))))) (fun p94 h95 => (kds (J.ds r59) (some (true, p94, h95)))))) (fun p83 h84 => (kds (J.ds r59) (some (true, p83, h84))))) (fun p78 h79 => (kds (J.ds r59) (some (true, p78, h79))))) (fun p70 h71 => (kds (J.ds r59) (some (true, p70, h71))))) (fun p65 h66 => (kds (J.ds r59) (some (true, p65, h66)))),
  kv1 (J.vs r59) fun p137 => (kds (J.ds r59) (some (true, p137, (J.h r59))))]) (fun p31 h32 => (some (true, p31, h32)))) (fun p19 h20 => (some (true, p19, h20))))) (fun p8 h9 => (some (true, p8, h9))))
theorem F8_ok {S : FS} {D : FD} (hS : SpecsOK Tryz.prog S) (hD : DynOK Tryz.prog D) : SpecOK Tryz.prog 8 (F8 S D) :=
  SpecOK.of (c := match Tryz.f8.body with | some c => c | none => .skip) (by kernel_rfl) hS hD ⟨Tryz.func8, rfl, by decide⟩
    (.seq .n (.seq .n (.seq (.seq .n (.dup (.seq .n .n) .n)) (.seq .n (.seq .n (.seq (.seq .n (.one (.loop [1, 3, 4] [(.exit 0, [1, 3]), (.pan, [])] (.seq (.seq .n (.dup .n .n)) (.seq (.one (.seq .n (.seq .n .n))) .n))))) (.seq .n (.seq .n (.seq .n (.seq .n (.seq (.seq .n (.dup (.seq .n .n) .n)) (.seq .n .n)))))))))))) 0 (fun args h => by kernel_rfl)
/-- (*roundhouse/world.World).Node -/
noncomputable def F9 (S : FS) (D : FD) (args : List AV) (h : Heap) : Option (Bool × AV × Heap) :=
 kv2 args fun w_1 i_2 =>
 ob (kbinO Tryz.prog .eql 32 true w_1 AV.nilptr) fun v3 =>
 ob (kgv false v3 (some i_2)) fun v4 =>
 ob (kgv false v3 (kbinI .lss v4 (.int .i64 (.ofNat 0)))) fun v5 =>
 ob (kpick v3 (.bool true) v5) fun v6 =>
 ob (kgv false v6 (some i_2)) fun v7 =>
 ob (kgv false v6 (some w_1)) fun v8 =>
 ob (kgv false v6 (knil v8)) fun v9 =>
 ob (kgv false v6 (kfa 0 v9)) fun v10 =>
 ob (kgv false v6 (kload h v10)) fun v11 =>
 ob (kgv false v6 (klenL v11)) fun v12 =>
 ob (kgv false v6 (kbinI .geq v7 v12)) fun v13 =>
 ob (kpick v6 (.bool true) v13) fun v14 =>
 kif v14
  ((some (false, AV.nilptr, h)))
  (ob (knil w_1) fun v15 =>
  ob (kfa 0 v15) fun v16 =>
  ob (kload h v16) fun v17 =>
  ob (kia 1 v17 i_2) fun v18 =>
  ob (kload h v18) fun v19 =>
  (some (false, v19, h)))
theorem F9_ok {S : FS} {D : FD} (hS : SpecsOK Tryz.prog S) (hD : DynOK Tryz.prog D) : SpecOK Tryz.prog 9 (F9 S D) :=
  SpecOK.of (c := match Tryz.f9.body with | some c => c | none => .skip) (by kernel_rfl) hS hD ⟨Tryz.func9, rfl, by decide⟩
    (.seq .n (.seq (.seq .n (.dup (.seq .n .n) .n)) (.seq .n .n))) 2 (fun args h => by kernel_rfl)
/-- (*roundhouse/agent.Agent).Tasks -/
noncomputable def F10 (S : FS) (D : FD) (args : List AV) (h : Heap) : Option (Bool × AV × Heap) :=
 kv1 args fun a_1 =>
 ob (kbinO Tryz.prog .eql 34 true a_1 AV.nilptr) fun v2 =>
 kif v2
  ((some (false, AV.nilslice, h)))
  (ob (knil a_1) fun v3 =>
  ob (kfa 0 v3) fun v4 =>
  ob (kfa 1 v4) fun v5 =>
  ob (kload h v5) fun v6 =>
  ob (S 23 [v6] h) fun r7 => kres r7 (fun v8 h9 =>
  (some (false, v8, h9))) (fun p10 h11 => (some (true, p10, h11))))
theorem F10_ok {S : FS} {D : FD} (hS : SpecsOK Tryz.prog S) (hD : DynOK Tryz.prog D) : SpecOK Tryz.prog 10 (F10 S D) :=
  SpecOK.of (c := match Tryz.f10.body with | some c => c | none => .skip) (by kernel_rfl) hS hD ⟨Tryz.func10, rfl, by decide⟩
    (.seq .n (.seq (.seq .n (.dup (.seq .n .n) .n)) (.seq .n .n))) 1 (fun args h => by kernel_rfl)
/-- slices.SortFunc[[]roundhouse/audit.Owner,roundhouse/audit.Owner] -/
noncomputable def F11 (S : FS) (D : FD) (args : List AV) (h : Heap) : Option (Bool × AV × Heap) :=
 kv2 args fun x_1 cmp_2 =>
 ob (klenL x_1) fun v3 =>
 ob (kconvI .u64 v3) fun v4 =>
 ob (S 25 [v4] h) fun r5 => kres r5 (fun v6 h7 =>
 ob (S 24 [x_1, (.int .i64 (.ofNat 0)), v3, v6, cmp_2] h7) fun r10 => kres r10 (fun v11 h12 =>
 (some (false, (.tuple []), h12))) (fun p13 h14 => (some (true, p13, h14)))) (fun p8 h9 => (some (true, p8, h9)))
theorem F11_ok {S : FS} {D : FD} (hS : SpecsOK Tryz.prog S) (hD : DynOK Tryz.prog D) : SpecOK Tryz.prog 11 (F11 S D) :=
  SpecOK.of (c := match Tryz.f11.body with | some c => c | none => .skip) (by kernel_rfl) hS hD ⟨Tryz.func11, rfl, by decide⟩
    (.seq .n .n) 2 (fun args h => by kernel_rfl)
/-- roundhouse/audit.order -/
noncomputable def F12 (S : FS) (D : FD) (args : List AV) (h : Heap) : Option (Bool × AV × Heap) :=
 kv2 args fun a_1 b_2 =>
 knt a_1 (Heap.pushK h (.cells (AV.cells a_1) true 41) fun h3 =>
 knt b_2 (Heap.pushK h3 (.cells (AV.cells b_2) true 41) fun h4 =>
 ob (kfa 0 (.ptr (Heap.next h) 0)) fun v5 =>
 ob (kload h4 v5) fun v6 =>
 ob (kfa 0 (.ptr (Heap.next h3) 0)) fun v7 =>
 ob (kload h4 v7) fun v8 =>
 ob (kfa 1 (.ptr (Heap.next h) 0)) fun v9 =>
 ob (kload h4 v9) fun v10 =>
 ob (kfa 1 (.ptr (Heap.next h3) 0)) fun v11 =>
 ob (kload h4 v11) fun v12 =>
 ob (S 27 [v6, v8] h4) fun r13 => kres r13 (fun v14 h15 =>
 kre (kload h15 v11) v12 (kre (kload h15 v9) v10 (ob (S 27 [v10, v12] h15) fun r18 => kres r18 (fun v19 h20 =>
 kfree h20 (ob (abuildSlice Tryz.prog 37 2 [(0, v14), (1, v19)]) fun r23 => Heap.pushK h20 (.cells r23.1 true r23.2.2) fun h24 =>
 ob (S 26 [(.slice (Heap.next h20) 0 2 2 r23.2.1)] h24) fun r25 => kres r25 (fun v26 h27 =>
 (some (false, v26, h27))) (fun p28 h29 => (some (true, p28, h29))))) (fun p21 h22 => (some (true, p21, h22)))))) (fun p16 h17 => none)))
theorem F12_ok {S : FS} {D : FD} (hS : SpecsOK Tryz.prog S) (hD : DynOK Tryz.prog D) : SpecOK Tryz.prog 12 (F12 S D) :=
  SpecOK.of (c := match Tryz.f12.body with | some c => c | none => .skip) (by kernel_rfl) hS hD ⟨Tryz.func12, rfl, by decide⟩
    (.seq .n (.seq .n .n)) 2 (fun args h => by kernel_rfl)
/-- roundhouse/audit.agents -/
noncomputable def F13 (S : FS) (D : FD) (args : List AV) (h : Heap) : Option (Bool × AV × Heap) :=
 kv1 args fun w_1 =>
 ob (S 15 [w_1] h) fun r2 => kres r2 (fun v3 h4 =>
 ob (iterD (fun vs7 ds8 h9 => kv4 vs7 fun w_10 l_11 v12 v13 =>
  ob (kbinI .lss v13 v12) fun v14 =>
  kif v14
   (ob (S 9 [w_10, v13] h9) fun r15 => kres r15 (fun v16 h17 =>
   ob (abuildSlice Tryz.prog 44 1 [(0, v16)]) fun r20 => Heap.pushK h17 (.cells r20.1 true r20.2.2) fun h21 =>
   ob (aappend Tryz.prog h21 44 44 l_11 (.slice (Heap.next h17) 0 1 1 r20.2.1)) fun r22 =>
   ob (kbinI .add v13 (.int .i64 (.ofNat 1))) fun v23 =>
   (some ⟨0, [w_10, r22.1, v12, v23], ds8, r22.2⟩)) (fun p18 h19 => (some ⟨2, [p18], ds8, h19⟩)))
   ((some ⟨1, [l_11], ds8, h9⟩))) rounds [w_1, AV.nilslice, v3, (.int .i64 (.ofNat 0))] [] h4) fun r24 => kcase (J.i r24) [kv1 (J.vs r24) fun l_25 =>
  (dleave (fun h26 => (some (false, l_25, h26))) (J.ds r24) (J.h r24)),
 kv1 (J.vs r24) fun p27 => (kds (J.ds r24) (some (true, p27, (J.h r24))))]) (fun p5 h6 => (some (true, p5, h6)))
theorem F13_ok {S : FS} {D : FD} (hS : SpecsOK Tryz.prog S) (hD : DynOK Tryz.prog D) : SpecOK Tryz.prog 13 (F13 S D) :=
  SpecOK.of (c := match Tryz.f13.body with | some c => c | none => .skip) (by kernel_rfl) hS hD ⟨Tryz.func13, rfl, by decide⟩
    (.seq .n (.seq .n (.seq (.seq .n (.one (.loop [0, 3, 6, 7] [(.exit 0, [3]), (.pan, [])] (.seq .n (.seq (.dup .n .n) (.seq (.one (.seq .n .n)) .n)))))) (.seq .n .n)))) 1 (fun args h => by kernel_rfl)
/-- (*roundhouse/agent.Agent).Down -/
noncomputable def F14 (S : FS) (D : FD) (args : List AV) (h : Heap) : Option (Bool × AV × Heap) :=
 kv1 args fun a_1 =>
 ob (kbinO Tryz.prog .eql 34 true a_1 AV.nilptr) fun v2 =>
 ob (kgv false v2 (some a_1)) fun v3 =>
 ob (kgv false v2 (knil v3)) fun v4 =>
 ob (kgv false v2 (kfa 11 v4)) fun v5 =>
 ob (kgv false v2 (kload h v5)) fun v6 =>
 ob (kpick v2 (.bool true) v6) fun v7 =>
 (some (false, v7, h))
theorem F14_ok {S : FS} {D : FD} (hS : SpecsOK Tryz.prog S) (hD : DynOK Tryz.prog D) : SpecOK Tryz.prog 14 (F14 S D) :=
  SpecOK.of (c := match Tryz.f14.body with | some c => c | none => .skip) (by kernel_rfl) hS hD ⟨Tryz.func14, rfl, by decide⟩
    (.seq .n (.seq .n .n)) 1 (fun args h => by kernel_rfl)
/-- (*roundhouse/world.World).Nodes -/
noncomputable def F15 (S : FS) (D : FD) (args : List AV) (h : Heap) : Option (Bool × AV × Heap) :=
 kv1 args fun w_1 =>
 ob (kbinO Tryz.prog .eql 32 true w_1 AV.nilptr) fun v2 =>
 kif v2
  ((some (false, (.int .i64 (.ofNat 0)), h)))
  (ob (knil w_1) fun v3 =>
  ob (kfa 0 v3) fun v4 =>
  ob (kload h v4) fun v5 =>
  ob (klenL v5) fun v6 =>
  (some (false, v6, h)))
theorem F15_ok {S : FS} {D : FD} (hS : SpecsOK Tryz.prog S) (hD : DynOK Tryz.prog D) : SpecOK Tryz.prog 15 (F15 S D) :=
  SpecOK.of (c := match Tryz.f15.body with | some c => c | none => .skip) (by kernel_rfl) hS hD ⟨Tryz.func15, rfl, by decide⟩
    (.seq .n (.seq (.seq .n (.dup (.seq .n .n) .n)) (.seq .n .n))) 1 (fun args h => by kernel_rfl)
/-- roundhouse/audit.node -/
noncomputable def F16 (S : FS) (D : FD) (args : List AV) (h : Heap) : Option (Bool × AV × Heap) :=
 kv2 args fun w_1 i_2 =>
 ob (S 9 [w_1, i_2] h) fun r3 => kres r3 (fun v4 h5 =>
 ob (abuild Tryz.prog 41 [(0, (.int .i64 (.negSucc 0)))]) fun v8 =>
 Heap.pushK h5 (.cells [(.int .i64 (.ofNat 0)), (.int .i64 (.ofNat 0)), (.int .i64 (.ofNat 0)), (.int .i64 (.ofNat 0)), (.int .i64 (.ofNat 0)), (.int .i64 (.ofNat 0))] true 41) fun h9 =>
 ob (kstore 6 (.ptr (Heap.next h5) 0) v8 h9) fun h10 =>
 ob (S 4 [w_1, i_2] h10) fun r11 => kres r11 (fun v12 h13 =>
 ob (klenL v12) fun v16 =>
 ob (iterD (fun vs17 ds18 h19 => kv5 vs17 fun a_20 last_21 v22 v23 v24 =>
  ob (kbinI .lss v24 v23) fun v25 =>
  kif v25
   (ob (kia 6 v22 v24) fun v26 =>
   ob (kloadN 6 h19 v26) fun v27 =>
   Heap.pushK h19 (.cells [(.int .i64 (.ofNat 0)), (.int .i64 (.ofNat 0)), (.int .i64 (.ofNat 0)), (.int .i64 (.ofNat 0)), (.int .i64 (.ofNat 0)), (.int .i64 (.ofNat 0))] true 41) fun h28 =>
   ob (kstore 6 (.ptr (Heap.next h19) 0) v27 h28) fun h29 =>
   ob (kfa 0 (.ptr (Heap.next h19) 0)) fun v30 =>
   ob (kload h29 v30) fun v31 =>
   ob (kfa 0 last_21) fun v32 =>
   ob (kload h29 v32) fun v33 =>
   ob (kbinI .eql v31 v33) fun v34 =>
   ob (kgv false v34 (some a_20)) fun v35 =>
   ob (kgv false v34 (kfa 0 (.ptr (Heap.next h19) 0))) fun v36 =>
   ob (kgv false v34 (kload h29 v36)) fun v37 =>
   ob (kgc false v34 h29 (S 28 [v35] h29)) fun r38 => kres r38 (fun v39 h40 =>
   krg false v34 (kload h40 v36) v37 (ob (kgc false v34 h40 (S 29 [v39, v37] h40)) fun r43 => kres r43 (fun v44 h45 =>
   ob (kpick v34 (.bool true) v44) fun v48 =>
   kif v48
    ((some ⟨2, [(.int .i64 (.ofNat 12))], ds18, h45⟩))
    (ob (kloadN 6 h45 (.ptr (Heap.next h19) 0)) fun v49 =>
    ob (kstore 6 last_21 v49 h45) fun h50 =>
    ob (kbinI .add v24 (.int .i64 (.ofNat 1))) fun v51 =>
    (some ⟨0, [a_20, last_21, v22, v23, v51], ds18, h50⟩))) (fun p46 h47 => (some ⟨3, [p46], ds18, h47⟩)))) (fun p41 h42 => none))
   ((some ⟨1, [a_20], ds18, h19⟩))) rounds [v4, (.ptr (Heap.next h5) 0), v12, v16, (.int .i64 (.ofNat 0))] [] h13) fun r52 => kcase (J.i r52) [kv1 (J.vs r52) fun a_53 =>
  ob (S 14 [a_53] (J.h r52)) fun r54 => kres r54 (fun v55 h56 =>
  kif v55
   ((dleave (fun h59 => (some (false, (.int .i64 (.ofNat 0)), h59))) (J.ds r52) h56))
   (ob (S 31 [a_53] h56) fun r60 => kres r60 (fun v61 h62 =>
   ob (S 33 [a_53] h62) fun r65 => kres r65 (fun v66 h67 =>
   ob (S 32 [v66] h67) fun r70 => kres r70 (fun v71 h72 =>
   ob (S 30 [v61, v71] h72) fun r75 => kres r75 (fun v76 h77 =>
   ob (aun .not v76) fun v80 =>
   kif v80
    ((dleave (fun h81 => (some (false, (.int .i64 (.ofNat 14)), h81))) (J.ds r52) h77))
    (ob (S 10 [a_53] h77) fun r82 => kres r82 (fun v83 h84 =>
    ob (klenL v83) fun v87 =>
    ob (iterD (fun vs88 ds89 h90 => kv5 vs88 fun a_91 pids_92 v93 v94 v95 =>
     ob (kbinI .lss v95 v94) fun v96 =>
     kif v96
      (ob (kia 8 v93 v95) fun v97 =>
      ob (kloadN 8 h90 v97) fun v98 =>
      Heap.pushK h90 (.cells [(.int .i64 (.ofNat 0)), (.int .i64 (.ofNat 0)), (.int .i64 (.ofNat 0)), (.int .i64 (.ofNat 0)), (.int .i64 (.ofNat 0)), AV.nilslice, (.int .i64 (.ofNat 0)), (.int .i64 (.ofNat 0))] true 39) fun h99 =>
      ob (kstore 8 (.ptr (Heap.next h90) 0) v98 h99) fun h100 =>
      ob (kfa 0 (.ptr (Heap.next h90) 0)) fun v101 =>
      ob (kload h100 v101) fun v102 =>
      ob (abuildSlice Tryz.prog 37 1 [(0, v102)]) fun r103 => Heap.pushK h100 (.cells r103.1 true r103.2.2) fun h104 =>
      ob (aappend Tryz.prog h104 37 37 pids_92 (.slice (Heap.next h100) 0 1 1 r103.2.1)) fun r105 =>
      ob (kbinI .add v95 (.int .i64 (.ofNat 1))) fun v106 =>
      (some ⟨0, [a_91, r105.1, v93, v94, v106], ds89, r105.2⟩))
      ((some ⟨1, [a_91, pids_92], ds89, h90⟩))) rounds [a_53, AV.nilslice, v83, v87, (.int .i64 (.ofNat 0))] (J.ds r52) h84) fun r107 => kcase (J.i r107) [kv2 (J.vs r107) fun a_108 pids_109 =>
     ob (S 31 [a_108] (J.h r107)) fun r110 => kres r110 (fun v111 h112 =>
     ob (S 35 [v111] h112) fun r115 => kres r115 (fun v116 h117 =>
     ob (S 34 [pids_109, v116] h117) fun r120 => kres r120 (fun v121 h122 =>
     ob (aun .not v121) fun v125 =>
     kif v125
      ((dleave (fun h126 => (some (false, (.int .i64 (.ofNat 13)), h126))) (J.ds r107) h122))
      ((dleave (fun h127 => (some (false, (.int .i64 (.ofNat 0)), h127))) (J.ds r107) h122))) (fun p123 h124 => (kds (J.ds r107) (some (true, p123, h124))))) (fun p118 h119 => (kds (J.ds r107) (some (true, p118, h119))))) (fun p113 h114 => (kds (J.ds r107) (some (true, p113, h114))))]) (fun p85 h86 => (kds (J.ds r52) (some (true, p85, h86)))))) (fun p78 h79 => (kds (J.ds r52) (some (true, p78, h79))))) (fun p73 h74 => (kds (J.ds r52) (some (true, p73, h74))))) (fun p68 h69 => (kds (J.ds r52) (some (true, p68, h69))))) (fun p63 h64 => (kds (J.ds r52) (some (true, p63, h64)))))) (fun p57 h58 => (kds (J.ds r52) (some (true, p57, h58)))),
 kv1 (J.vs r52) fun v128 =>
  (dleave (fun h129 => (some (false, v128, h129))) (J.ds r52) (J.h r52)),
 kv1 (J.vs r52) fun p130 => (kds (J.ds r52) (some (true, p130, (J.h r52))))]) (fun p14 h15 => (some (true, p14, h15)))) (fun p6 h7 => (some (true, p6, h7)))
theorem F16_ok {S : FS} {D : FD} (hS : SpecsOK Tryz.prog S) (hD : DynOK Tryz.prog D) : SpecOK Tryz.prog 16 (F16 S D) :=
  SpecOK.of (c := match Tryz.f16.body with | some c => c | none => .skip) (by kernel_rfl) hS hD ⟨Tryz.func16, rfl, by decide⟩
    (.seq .n (.seq .n (.seq .n (.seq (.seq .n (.one (.loop [5, 6, 18, 19, 20] [(.exit 0, [5]), (.ret, [4]), (.pan, [])] (.seq .n (.seq (.dup .n .n) (.seq (.one (.seq .n (.seq (.seq .n (.dup (.seq .n .n) .n)) .n))) .n)))))) (.seq (.seq .n (.dup (.seq .n .n) .n)) (.seq (.seq .n (.dup (.seq .n .n) .n)) (.seq .n (.seq (.seq .n (.one (.loop [5, 9, 48, 49, 50] [(.exit 2, [5, 9])] (.seq .n (.seq (.dup .n .n) (.seq (.one (.seq .n .n)) .n)))))) (.seq (.seq .n (.dup (.seq .n .n) .n)) (.seq .n .n)))))))))) 2 (fun args h => by kernel_rfl)
/-- roundhouse/trace.World -/
noncomputable def F17 (S : FS) (D : FD) (args : List AV) (h : Heap) : Option (Bool × AV × Heap) :=
 kv1 args fun w_1 =>
 ob (kbinO Tryz.prog .eql 32 true w_1 AV.nilptr) fun v2 =>
 kif v2
  ((some (false, (.int .i64 (.ofNat 1)), h)))
  (ob (S 37 [w_1] h) fun r3 => kres r3 (fun v4 h5 =>
  ob (S 38 [w_1] h5) fun r8 => kres r8 (fun v9 h10 =>
  ob (S 36 [v4, v9] h10) fun r13 => kres r13 (fun v14 h15 =>
  ob (aextract v14 0) fun v18 =>
  ob (aextract v14 1) fun v19 =>
  (some (false, v19, h15))) (fun p16 h17 => (some (true, p16, h17)))) (fun p11 h12 => (some (true, p11, h12)))) (fun p6 h7 => (some (true, p6, h7))))
theorem F17_ok {S : FS} {D : FD} (hS : SpecsOK Tryz.prog S) (hD : DynOK Tryz.prog D) : SpecOK Tryz.prog 17 (F17 S D) :=
  SpecOK.of (c := match Tryz.f17.body with | some c => c | none => .skip) (by kernel_rfl) hS hD ⟨Tryz.func17, rfl, by decide⟩
    (.seq .n (.seq (.seq .n (.dup (.seq .n .n) .n)) (.seq .n (.seq .n .n)))) 1 (fun args h => by kernel_rfl)
/-- (*roundhouse/world.World).Ctl -/
noncomputable def F18 (S : FS) (D : FD) (args : List AV) (h : Heap) : Option (Bool × AV × Heap) :=
 kv1 args fun w_1 =>
 ob (kbinO Tryz.prog .eql 32 true w_1 AV.nilptr) fun v2 =>
 kif v2
  ((some (false, AV.nilptr, h)))
  (ob (knil w_1) fun v3 =>
  ob (kfa 1 v3) fun v4 =>
  ob (kload h v4) fun v5 =>
  (some (false, v5, h)))
theorem F18_ok {S : FS} {D : FD} (hS : SpecsOK Tryz.prog S) (hD : DynOK Tryz.prog D) : SpecOK Tryz.prog 18 (F18 S D) :=
  SpecOK.of (c := match Tryz.f18.body with | some c => c | none => .skip) (by kernel_rfl) hS hD ⟨Tryz.func18, rfl, by decide⟩
    (.seq .n (.seq (.seq .n (.dup (.seq .n .n) .n)) (.seq .n .n))) 1 (fun args h => by kernel_rfl)
/-- (*roundhouse/ctl.Ctl).Jobs -/
noncomputable def F19 (S : FS) (D : FD) (args : List AV) (h : Heap) : Option (Bool × AV × Heap) :=
 kv1 args fun c_1 =>
 ob (kbinO Tryz.prog .eql 48 true c_1 AV.nilptr) fun v2 =>
 kif v2
  ((some (false, (.int .i64 (.ofNat 0)), h)))
  (ob (knil c_1) fun v3 =>
  ob (kfa 1 v3) fun v4 =>
  ob (kload h v4) fun v5 =>
  ob (klenL v5) fun v6 =>
  (some (false, v6, h)))
theorem F19_ok {S : FS} {D : FD} (hS : SpecsOK Tryz.prog S) (hD : DynOK Tryz.prog D) : SpecOK Tryz.prog 19 (F19 S D) :=
  SpecOK.of (c := match Tryz.f19.body with | some c => c | none => .skip) (by kernel_rfl) hS hD ⟨Tryz.func19, rfl, by decide⟩
    (.seq .n (.seq (.seq .n (.dup (.seq .n .n) .n)) (.seq .n .n))) 1 (fun args h => by kernel_rfl)
/-- (*roundhouse/ctl.Ctl).Job -/
noncomputable def F20 (S : FS) (D : FD) (args : List AV) (h : Heap) : Option (Bool × AV × Heap) :=
 kv2 args fun c_1 id_2 =>
 Heap.pushK h (.cells [(.int .i64 (.ofNat 0)), (.int .i64 (.ofNat 0)), (.int .i64 (.ofNat 0)), (.int .i64 (.ofNat 0)), (.int .i64 (.ofNat 0)), AV.nilslice, AV.nilslice] true 51) fun h3 =>
 ob (S 39 [c_1, id_2] h3) fun r4 => kres r4 (fun v5 h6 =>
 ob (kbinO Tryz.prog .eql 113 true v5 AV.nilptr) fun v9 =>
 kif v9
  (ob (abuild Tryz.prog 51 []) fun v10 =>
  ob (kstore 7 (.ptr (Heap.next h) 0) v10 h6) fun h11 =>
  ob (kloadN 7 h11 (.ptr (Heap.next h) 0)) fun v12 => (some (false, (.tuple [v12, (.bool false)]), h11)))
  (ob (knil v5) fun v13 =>
  ob (kfa 2 v13) fun v14 =>
  ob (kload h6 v14) fun v15 =>
  ob (knil v5) fun v16 =>
  ob (kfa 3 v16) fun v17 =>
  ob (kload h6 v17) fun v18 =>
  ob (knil v5) fun v19 =>
  ob (kfa 4 v19) fun v20 =>
  ob (kload h6 v20) fun v21 =>
  ob (knil v5) fun v22 =>
  ob (kfa 5 v22) fun v23 =>
  ob (kload h6 v23) fun v24 =>
  ob (knil v5) fun v25 =>
  ob (kfa 6 v25) fun v26 =>
  ob (kload h6 v26) fun v27 =>
  ob (knil v5) fun v28 =>
  ob (kfa 7 v28) fun v29 =>
  ob (kload h6 v29) fun v30 =>
  kfree h6 (Heap.pushK h6 (.cells [(.int .i64 (.ofNat 0)), (.int .i64 (.ofNat 0)), (.int .i64 (.ofNat 0)), (.int .i64 (.ofNat 0)), (.int .i64 (.ofNat 0)), AV.nilslice, AV.nilslice] true 51) fun h31 =>
  ob (S 40 [v30] h31) fun r32 => kres r32 (fun v33 h34 =>
  kro (Heap.next h6) h31 h34 (kre (kload h34 v26) v27 (kre (kload h34 v23) v24 (kre (kload h34 v20) v21 (kre (kload h34 v17) v18 (kre (kload h34 v14) v15 (ob (abuild Tryz.prog 51 [(0, v15), (1, v18), (2, v21), (3, v24), (4, v27), (5, v33)]) fun v37 =>
  ob (kstore 7 (.ptr (Heap.next h6) 0) v37 h34) fun h38 =>
  ob (knil v5) fun v39 =>
  ob (kfa 8 v39) fun v40 =>
  ob (kload h38 v40) fun v41 =>
  ob (klenL v41) fun v42 =>
  ob (iterD (fun vs43 ds44 h45 => kv5 vs43 fun v46 j_47 v48 v49 v50 =>
   ob (kbinI .lss v50 v49) fun v51 =>
   kif v51
    (ob (kia 1 v48 v50) fun v52 =>
    ob (kload h45 v52) fun v53 =>
    ob (kbinO Tryz.prog .neq 119 true v53 AV.nilptr) fun v54 =>
    ob (kif v54
     (ob (S 41 [v53] h45) fun r56 => kres r56 (fun v57 h58 =>
     (some ⟨0, [v46, j_47, v57, v48, v49, v50], ds44, h58⟩)) (fun p59 h60 => (some ⟨1, [p59], ds44, h60⟩)))
     ((some ⟨0, [v46, j_47, (.int .i64 (.negSucc 0)), v48, v49, v50], ds44, h45⟩))) fun r55 => kcase (J.i r55) [kv6 (J.vs r55) fun v61 j_62 state_63 v64 v65 v66 =>
     ob (kfa 6 j_62) fun v67 =>
     ob (kload (J.h r55) v67) fun v68 =>
     ob (abuildSlice Tryz.prog 37 1 [(0, state_63)]) fun r69 => Heap.pushK (J.h r55) (.cells r69.1 true r69.2.2) fun h70 =>
     ob (aappend Tryz.prog h70 37 37 v68 (.slice (Heap.next (J.h r55)) 0 1 1 r69.2.1)) fun r71 =>
     ob (kfa 6 j_62) fun v72 =>
     ob (kstore 1 v72 r71.1 r71.2) fun h73 =>
     ob (kbinI .add v66 (.int .i64 (.ofNat 1))) fun v74 =>
     (some ⟨0, [v61, j_62, v64, v65, v74], (J.ds r55), h73⟩),
    kv1 (J.vs r55) fun p75 => (some ⟨2, [p75], (J.ds r55), (J.h r55)⟩)])
    ((some ⟨1, [v46, j_47], ds44, h45⟩))) rounds [(.ptr (Heap.next h) 0), (.ptr (Heap.next h6) 0), v41, v42, (.int .i64 (.ofNat 0))] [] h38) fun r76 => kcase (J.i r76) [kv2 (J.vs r76) fun v77 j_78 =>
   ob (kloadN 7 (J.h r76) j_78) fun v79 =>
   ob (kstore 7 v77 v79 (J.h r76)) fun h80 =>
   (dleave (fun h81 => ob (kloadN 7 h81 v77) fun v82 => (some (false, (.tuple [v82, (.bool true)]), h81))) (J.ds r76) h80),
  kv1 (J.vs r76) fun p83 => (kds (J.ds r76) (some (true, p83, (J.h r76))))]))))))) (fun p35 h36 => none)))) (fun p7 h8 => (some (true, p7, h8)))
theorem F20_ok {S : FS} {D : FD} (hS : SpecsOK Tryz.prog S) (hD : DynOK Tryz.prog D) : SpecOK Tryz.prog 20 (F20 S D) :=
  SpecOK.of (c := match Tryz.f20.body with | some c => c | none => .skip) (by kernel_rfl) hS hD ⟨Tryz.func20, rfl, by decide⟩
    (.seq .n (.seq .n (.seq (.seq .n (.dup (.seq .n .n) .n)) (.seq .n (.seq (.seq .n (.one (.loop [4, 7, 46, 47, 48] [(.exit 0, [4, 7]), (.pan, [])] (.seq .n (.seq (.dup .n .n) (.seq (.one (.seq .n (.seq .n (.seq (.seq .n (.join [(.norm, [4, 7, 10, 46, 47, 48]), (.pan, [])] (.dup .n .n))) .n)))) .n)))))) (.seq .n .n)))))) 2 (fun args h => by kernel_rfl)
/-- roundhouse/world.New -/
noncomputable def F21 (S : FS) (D : FD) (args : List AV) (h : Heap) : Option (Bool × AV × Heap) :=
 kv1 args fun c_1 =>
 knt c_1 (Heap.pushK h (.cells (AV.cells c_1) true 60) fun h2 =>
 ob (kfa 0 (.ptr (Heap.next h) 0)) fun v3 =>
 ob (kload h2 v3) fun v4 =>
 ob (klenL v4) fun v5 =>
 ob (kbinI .lss v5 (.int .i64 (.ofNat 1))) fun v6 =>
 ob (kgv false v6 (kfa 0 (.ptr (Heap.next h) 0))) fun v7 =>
 ob (kgv false v6 (kload h2 v7)) fun v8 =>
 ob (kgv false v6 (klenL v8)) fun v9 =>
 ob (kgv false v6 (kbinI .gtr v9 (.int .i64 (.ofNat 16)))) fun v10 =>
 ob (kpick v6 (.bool true) v10) fun v11 =>
 kif v11
  ((some (false, (.tuple [AV.nilptr, (.int .i64 (.ofNat 1))]), h2)))
  (ob (kfa 1 (.ptr (Heap.next h) 0)) fun v12 =>
  ob (kload h2 v12) fun v13 =>
  ob (kfa 0 (.ptr (Heap.next h) 0)) fun v14 =>
  ob (kload h2 v14) fun v15 =>
  ob (klenL v15) fun v16 =>
  kfree h2 (ob (amakeSlice Tryz.prog 37 v16 v16) fun r17 => Heap.pushK h2 (.cells r17.1 true r17.2.2.2.2) fun h18 =>
  ob (S 42 [v13] h18) fun r19 => kres r19 (fun v20 h21 =>
  kro (Heap.next h2) h18 h21 (kre (kload h21 v14) v15 (ob (S 43 [(.int .i64 (.ofNat 200))] h21) fun r24 => kres r24 (fun v25 h26 =>
  kro (Heap.next h2) h18 h26 (kre (kload h26 v14) v15 (ob (abuild Tryz.prog 74 [(1, v20), (2, v25), (6, (.slice (Heap.next h2) 0 r17.2.1 r17.2.2.1 r17.2.2.2.1))]) fun v29 =>
  kfree h26 (knt v29 (Heap.pushK h26 (.cells (AV.cells v29) true 74) fun h30 =>
  ob (kfa 0 (.ptr (Heap.next h) 0)) fun v31 =>
  ob (kload h30 v31) fun v32 =>
  ob (klenL v32) fun v33 =>
  ob (iterD (fun vs34 ds35 h36 => kv5 vs34 fun c_37 w_38 v39 v40 v41 =>
   ob (kbinI .lss v41 v40) fun v42 =>
   kif v42
    (ob (kia 2 v39 v41) fun v43 =>
    ob (kloadN 2 h36 v43) fun v44 =>
    Heap.pushK h36 (.cells [(.int .i64 (.ofNat 0)), (.int .i64 (.ofNat 0))] true 57) fun h45 =>
    ob (kstore 2 (.ptr (Heap.next h36) 0) v44 h45) fun h46 =>
    ob (kloadN 2 h46 (.ptr (Heap.next h36) 0)) fun v47 =>
    ob (kfa 1 c_37) fun v48 =>
    ob (kload h46 v48) fun v49 =>
    ob (kfa 2 c_37) fun v50 =>
    ob (kload h46 v50) fun v51 =>
    ob (kfa 3 c_37) fun v52 =>
    ob (kload h46 v52) fun v53 =>
    ob (abuild Tryz.prog 81 [(0, v41), (1, v47), (2, v49), (3, v51), (4, v53)]) fun v54 =>
    ob (S 44 [v54] h46) fun r55 => kres r55 (fun v56 h57 =>
    ob (kbinO Tryz.prog .eql 34 true v56 AV.nilptr) fun v60 =>
    kif v60
     ((some ⟨2, [AV.nilptr, (.int .i64 (.ofNat 1))], ds35, h57⟩))
     (ob (knil w_38) fun v61 =>
     ob (kfa 0 v61) fun v62 =>
     ob (kload h57 v62) fun v63 =>
     ob (abuildSlice Tryz.prog 44 1 [(0, v56)]) fun r64 => Heap.pushK h57 (.cells r64.1 true r64.2.2) fun h65 =>
     ob (aappend Tryz.prog h65 44 44 v63 (.slice (Heap.next h57) 0 1 1 r64.2.1)) fun r66 =>
     ob (knil w_38) fun v67 =>
     ob (kfa 0 v67) fun v68 =>
     ob (kstore 1 v68 r66.1 r66.2) fun h69 =>
     ob (kbinI .add v41 (.int .i64 (.ofNat 1))) fun v70 =>
     (some ⟨0, [c_37, w_38, v39, v40, v70], ds35, h69⟩))) (fun p58 h59 => (some ⟨3, [p58], ds35, h59⟩)))
    ((some ⟨1, [w_38], ds35, h36⟩))) rounds [(.ptr (Heap.next h) 0), (.ptr (Heap.next h26) 0), v32, v33, (.int .i64 (.ofNat 0))] [] h30) fun r71 => kcase (J.i r71) [kv1 (J.vs r71) fun w_72 =>
   (dleave (fun h73 => (some (false, (.tuple [w_72, (.int .i64 (.ofNat 0))]), h73))) (J.ds r71) (J.h r71)),
  kv2 (J.vs r71) fun v74 v75 =>
   (dleave (fun h76 => (some (false, (.tuple [v74, v75]), h76))) (J.ds r71) (J.h r71)),
  kv1 (J.vs r71) fun p77 => (kds (J.ds r71) (some (true, p77, (J.h r71))))]))))) (fun p27 h28 => none)))) (fun p22 h23 => none))))
theorem F21_ok {S : FS} {D : FD} (hS : SpecsOK Tryz.prog S) (hD : DynOK Tryz.prog D) : SpecOK Tryz.prog 21 (F21 S D) :=
  SpecOK.of (c := match Tryz.f21.body with | some c => c | none => .skip) (by kernel_rfl) hS hD ⟨Tryz.func21, rfl, by decide⟩
    (.seq .n (.seq (.seq .n (.dup (.seq .n .n) .n)) (.seq .n (.seq (.seq .n (.one (.loop [1, 4, 29, 30, 31] [(.exit 0, [4]), (.ret, [2, 3]), (.pan, [])] (.seq .n (.seq (.dup .n .n) (.seq (.one (.seq .n (.seq .n (.seq (.seq .n (.dup (.seq .n .n) .n)) .n)))) .n)))))) (.seq .n .n))))) 1 (fun args h => by kernel_rfl)
/-- (*roundhouse/world.World).Do -/
noncomputable def F22 (S : FS) (D : FD) (args : List AV) (h : Heap) : Option (Bool × AV × Heap) :=
 kv2 args fun w_1 o_2 =>
 knt o_2 (Heap.pushK h (.cells (AV.cells o_2) true 69) fun h3 =>
 ob (kbinO Tryz.prog .eql 32 true w_1 AV.nilptr) fun v4 =>
 kif v4
  ((some (false, (.bool false), h3)))
  (ob (kfa 0 (.ptr (Heap.next h) 0)) fun v5 =>
  ob (kload h3 v5) fun v6 =>
  ob (S 45 [] h3) fun r7 => kres r7 (fun v8 h9 =>
  kre (kload h9 v5) v6 (ob (alookup Tryz.prog h9 125 v8 v6 true) fun v12 =>
  ob (aextract v12 0) fun v13 =>
  ob (aextract v12 1) fun v14 =>
  ob (aun .not v14) fun v15 =>
  kif v15
   ((some (false, (.bool false), h9)))
   (ob (S 46 [w_1] h9) fun r16 => kres r16 (fun v17 h18 =>
   ob (kloadN 6 h18 (.ptr (Heap.next h) 0)) fun v21 =>
   ob (D v13 [w_1, v21] h18) fun r22 => kres r22 (fun v23 h24 =>
   ob (S 47 [w_1, v17] h24) fun r27 => kres r27 (fun v28 h29 =>
   (some (false, v23, h29))) (fun p30 h31 => (some (true, p30, h31)))) (fun p25 h26 => (some (true, p25, h26)))) (fun p19 h20 => (some (true, p19, h20)))))) (fun p10 h11 => none)))
theorem F22_ok {S : FS} {D : FD} (hS : SpecsOK Tryz.prog S) (hD : DynOK Tryz.prog D) : SpecOK Tryz.prog 22 (F22 S D) :=
  SpecOK.of (c := match Tryz.f22.body with | some c => c | none => .skip) (by kernel_rfl) hS hD ⟨Tryz.func22, rfl, by decide⟩
    (.seq .n (.seq (.seq .n (.dup (.seq .n .n) .n)) (.seq .n (.seq (.seq .n (.dup (.seq .n .n) .n)) (.seq .n (.seq .n (.seq .n (.seq .n .n)))))))) 2 (fun args h => by kernel_rfl)
/-- (*roundhouse/procs.Table).List -/
noncomputable def F23 (S : FS) (D : FD) (args : List AV) (h : Heap) : Option (Bool × AV × Heap) :=
 kv1 args fun t_1 =>
 ob (kbinO Tryz.prog .eql 75 true t_1 AV.nilptr) fun v2 =>
 kif v2
  ((some (false, AV.nilslice, h)))
  (ob (knil t_1) fun v3 =>
  ob (kfa 0 v3) fun v4 =>
  ob (kload h v4) fun v5 =>
  ob (S 49 [v5] h) fun r6 => kres r6 (fun v7 h8 =>
  ob (S 48 [v7] h8) fun r11 => kres r11 (fun v12 h13 =>
  ob (klenL v12) fun v16 =>
  ob (iterD (fun vs17 ds18 h19 => kv5 vs17 fun t_20 l_21 v22 v23 v24 =>
   ob (kbinI .lss v24 v23) fun v25 =>
   kif v25
    (ob (kia 1 v22 v24) fun v26 =>
    ob (kload h19 v26) fun v27 =>
    ob (knil t_20) fun v28 =>
    ob (kfa 0 v28) fun v29 =>
    ob (kload h19 v29) fun v30 =>
    ob (alookup Tryz.prog h19 134 v30 v27 false) fun v31 =>
    ob (knil v31) fun v32 =>
    ob (kfa 0 v32) fun v33 =>
    ob (kloadN 8 h19 v33) fun v34 =>
    Heap.pushK h19 (.cells [(.int .i64 (.ofNat 0)), (.int .i64 (.ofNat 0)), (.int .i64 (.ofNat 0)), (.int .i64 (.ofNat 0)), (.int .i64 (.ofNat 0)), AV.nilslice, (.int .i64 (.ofNat 0)), (.int .i64 (.ofNat 0))] true 39) fun h35 =>
    ob (kstore 8 (.ptr (Heap.next h19) 0) v34 h35) fun h36 =>
    ob (kfa 5 (.ptr (Heap.next h19) 0)) fun v37 =>
    ob (kload h36 v37) fun v38 =>
    ob (S 40 [v38] h36) fun r39 => kres r39 (fun v40 h41 =>
    ob (kfa 5 (.ptr (Heap.next h19) 0)) fun v44 =>
    ob (kstore 1 v44 v40 h41) fun h45 =>
    ob (kloadN 8 h45 (.ptr (Heap.next h19) 0)) fun v46 =>
    ob (abuildSlice Tryz.prog 33 1 [(0, v46)]) fun r47 => Heap.pushK h45 (.cells r47.1 true r47.2.2) fun h48 =>
    ob (aappend Tryz.prog h48 33 33 l_21 (.slice (Heap.next h45) 0 1 1 r47.2.1)) fun r49 =>
    ob (kbinI .add v24 (.int .i64 (.ofNat 1))) fun v50 =>
    (some ⟨0, [t_20, r49.1, v22, v23, v50], ds18, r49.2⟩)) (fun p42 h43 => (some ⟨2, [p42], ds18, h43⟩)))
    ((some ⟨1, [l_21], ds18, h19⟩))) rounds [t_1, AV.nilslice, v12, v16, (.int .i64 (.ofNat 0))] [] h13) fun r51 => kcase (J.i r51) [kv1 (J.vs r51) fun l_52 =>
   (dleave (fun h53 => (some (false, l_52, h53))) (J.ds r51) (J.h r51)),
  kv1 (J.vs r51) fun p54 => (kds (J.ds r51) (some (true, p54, (J.h r51))))]) (fun p14 h15 => (some (true, p14, h15)))) (fun p9 h10 => (some (true, p9, h10))))
theorem F23_ok {S : FS} {D : FD} (hS : SpecsOK Tryz.prog S) (hD : DynOK Tryz.prog D) : SpecOK Tryz.prog 23 (F23 S D) :=
  SpecOK.of (c := match Tryz.f23.body with | some c => c | none => .skip) (by kernel_rfl) hS hD ⟨Tryz.func23, rfl, by decide⟩
    (.seq .n (.seq (.seq .n (.dup (.seq .n .n) .n)) (.seq .n (.seq (.seq .n (.one (.loop [0, 3, 14, 15, 16] [(.exit 0, [3]), (.pan, [])] (.seq .n (.seq (.dup .n .n) (.seq (.one (.seq .n (.seq .n (.seq .n .n)))) .n)))))) (.seq .n .n))))) 1 (fun args h => by kernel_rfl)
/-- slices.pdqsortCmpFunc[roundhouse/audit.Owner] -/
noncomputable def F24 (S : FS) (D : FD) (args : List AV) (h : Heap) : Option (Bool × AV × Heap) :=
 kv5 args fun data_1 a_2 b_3 limit_4 cmp_5 =>
 ob (iterD (fun vs6 ds7 h8 => kv7 vs6 fun data_9 a_10 b_11 limit_12 cmp_13 wasBalanced_14 wasPartitioned_15 =>
  ob (ob (kbinI .sub b_11 a_10) fun v17 =>
   ob (kbinI .leq v17 (.int .i64 (.ofNat 12))) fun v18 =>
   kif v18
    (ob (S 50 [data_9, a_10, b_11, cmp_13] h8) fun r19 => kres r19 (fun v20 h21 =>
    (some ⟨1, [], ds7, h21⟩)) (fun p22 h23 => (some ⟨2, [p22], ds7, h23⟩)))
    (ob (kbinI .eql limit_12 (.int .i64 (.ofNat 0))) fun v24 =>
    kif v24
     (ob (S 51 [data_9, a_10, b_11, cmp_13] h8) fun r25 => kres r25 (fun v26 h27 =>
     (some ⟨1, [], ds7, h27⟩)) (fun p28 h29 => (some ⟨2, [p28], ds7, h29⟩)))
     (ob (aun .not wasBalanced_14) fun v30 =>
     ob (kif v30
      (ob (S 52 [data_9, a_10, b_11, cmp_13] h8) fun r32 => kres r32 (fun v33 h34 =>
      ob (kbinI .sub limit_12 (.int .i64 (.ofNat 1))) fun v37 =>
      (some ⟨0, [data_9, a_10, b_11, v37, cmp_13, wasBalanced_14, wasPartitioned_15, v17], ds7, h34⟩)) (fun p35 h36 => (some ⟨1, [p35], ds7, h36⟩)))
      ((some ⟨0, [data_9, a_10, b_11, limit_12, cmp_13, wasBalanced_14, wasPartitioned_15, v17], ds7, h8⟩))) fun r31 => kcase (J.i r31) [kv8 (J.vs r31) fun data_38 a_39 b_40 limit_41 cmp_42 wasBalanced_43 wasPartitioned_44 length_45 =>
      ob (S 53 [data_38, a_39, b_40, cmp_42] (J.h r31)) fun r46 => kres r46 (fun v47 h48 =>
      ob (aextract v47 0) fun v51 =>
      ob (aextract v47 1) fun v52 =>
      ob (kbinI .eql v52 (.int .i64 (.ofNat 2))) fun v53 =>
      ob (kif v53
       (ob (S 54 [data_38, a_39, b_40, cmp_42] h48) fun r55 => kres r55 (fun v56 h57 =>
       ob (kbinI .sub b_40 (.int .i64 (.ofNat 1))) fun v60 =>
       ob (kbinI .sub v51 a_39) fun v61 =>
       ob (kbinI .sub v60 v61) fun v62 =>
       (some ⟨0, [data_38, a_39, b_40, limit_41, cmp_42, wasBalanced_43, wasPartitioned_44, length_45, v62, (.int .i64 (.ofNat 1))], (J.ds r31), h57⟩)) (fun p58 h59 => (some ⟨1, [p58], (J.ds r31), h59⟩)))
       ((some ⟨0, [data_38, a_39, b_40, limit_41, cmp_42, wasBalanced_43, wasPartitioned_44, length_45, v51, v52], (J.ds r31), h48⟩))) fun r54 => kcase (J.i r54) [kv10 (J.vs r54) fun data_63 a_64 b_65 limit_66 cmp_67 wasBalanced_68 wasPartitioned_69 length_70 pivot_71 hint_72 =>
       ob (kgv true wasBalanced_68 (some wasPartitioned_69)) fun v73 =>
       ob (kpick wasBalanced_68 v73 (.bool false)) fun v74 =>
       ob (kgv true v74 (some hint_72)) fun v75 =>
       ob (kgv true v74 (kbinI .eql v75 (.int .i64 (.ofNat 1)))) fun v76 =>
       ob (kpick v74 v76 (.bool false)) fun v77 =>
       ob (kif v77
        (ob (S 55 [data_63, a_64, b_65, cmp_67] (J.h r54)) fun r79 => kres r79 (fun v80 h81 =>
        kif v80
         ((some ⟨1, [], (J.ds r54), h81⟩))
         ((some ⟨0, [data_63, a_64, b_65, limit_66, cmp_67, wasBalanced_68, wasPartitioned_69, length_70, pivot_71], (J.ds r54), h81⟩))) (fun p82 h83 => (some ⟨2, [p82], (J.ds r54), h83⟩)))
        ((some ⟨0, [data_63, a_64, b_65, limit_66, cmp_67, wasBalanced_68, wasPartitioned_69, length_70, pivot_71], (J.ds r54), (J.h r54)⟩))) fun r78 => kcase (J.i r78) [kv9 (J.vs r78) fun data_84 a_85 b_86 limit_87 cmp_88 wasBalanced_89 wasPartitioned_90 length_91 pivot_92 =>
        ob (kbinI .gtr a_85 (.int .i64 (.ofNat 0))) fun v93 =>
        ob (kgv true v93 (some cmp_88)) fun v94 =>
        ob (kgv true v93 (some data_84)) fun v95 =>
        ob (kgv true v93 (some a_85)) fun v96 =>
        ob (kgv true v93 (kbinI .sub v96 (.int .i64 (.ofNat 1)))) fun v97 =>
        ob (kgv true v93 (kia 6 v95 v97)) fun v98 =>
        ob (kgv true v93 (kloadN 6 (J.h r78) v98)) fun v99 =>
        ob (kgv true v93 (some data_84)) fun v100 =>
        ob (kgv true v93 (some pivot_92)) fun v101 =>
        ob (kgv true v93 (kia 6 v100 v101)) fun v102 =>
        ob (kgv true v93 (kloadN 6 (J.h r78) v102)) fun v103 =>
        ob (kgc true v93 (J.h r78) (D v94 [v99, v103] (J.h r78))) fun r104 => kres r104 (fun v105 h106 =>
        ob (kgv true v93 (kbinI .lss v105 (.int .i64 (.ofNat 0)))) fun v109 =>
        ob (kgv true v93 (aun .not v109)) fun v110 =>
        ob (kpick v93 v110 (.bool false)) fun v111 =>
        kif v111
         (ob (S 56 [data_84, a_85, b_86, pivot_92, cmp_88] h106) fun r112 => kres r112 (fun v113 h114 =>
         (some ⟨0, [data_84, v113, b_86, limit_87, cmp_88, wasBalanced_89, wasPartitioned_90], (J.ds r78), h114⟩)) (fun p115 h116 => (some ⟨2, [p115], (J.ds r78), h116⟩)))
         (ob (S 57 [data_84, a_85, b_86, pivot_92, cmp_88] h106) fun r117 => kres r117 (fun v118 h119 =>
         ob (aextract v118 0) fun v122 =>
         ob (aextract v118 1) fun v123 =>
         ob (kbinI .sub v122 a_85) fun v124 =>
         ob (kbinI .sub b_86 v122) fun v125 =>
         ob (kbinI .quo length_91 (.int .i64 (.ofNat 8))) fun v126 =>
         ob (kbinI .lss v124 v125) fun v127 =>
         ob (kif v127
          (ob (kbinI .geq v124 v126) fun v129 =>
          ob (S 24 [data_84, a_85, v122, limit_87, cmp_88] h119) fun r130 => kres r130 (fun v131 h132 =>
          ob (kbinI .add v122 (.int .i64 (.ofNat 1))) fun v135 =>
          (some ⟨0, [data_84, v135, b_86, limit_87, cmp_88, v129, v123], (J.ds r78), h132⟩)) (fun p133 h134 => (some ⟨1, [p133], (J.ds r78), h134⟩)))
          (ob (kbinI .geq v125 v126) fun v136 =>
          ob (kbinI .add v122 (.int .i64 (.ofNat 1))) fun v137 =>
          ob (S 24 [data_84, v137, b_86, limit_87, cmp_88] h119) fun r138 => kres r138 (fun v139 h140 =>
          (some ⟨0, [data_84, a_85, v122, limit_87, cmp_88, v136, v123], (J.ds r78), h140⟩)) (fun p141 h142 => (some ⟨1, [p141], (J.ds r78), h142⟩)))) fun r128 => kcase (J.i r128) [kv7 (J.vs r128) fun data_143 a_144 b_145 limit_146 cmp_147 wasBalanced_148 wasPartitioned_149 =>
          (some ⟨0, [data_143, a_144, b_145, limit_146, cmp_147, wasBalanced_148, wasPartitioned_149], (J.ds r128), (J.h r128)⟩),
         kv1 (J.vs r128) fun p150 => (some ⟨2, [p150], (J.ds r128), (J.h r128)⟩)]) (fun p120 h121 => (some ⟨2, [p120], (J.ds r78), h121⟩)))) (fun p107 h108 => (some ⟨2, [p107], (J.ds r78), h108⟩)),
       kv0 (J.vs r78) ((some ⟨1, [], (J.ds r78), (J.h r78)⟩)),
       kv1 (J.vs r78) fun p151 => (some ⟨2, [p151], (J.ds r78), (J.h r78)⟩)],
      kv1 (J.vs r54) fun p152 => (some ⟨2, [p152], (J.ds r54), (J.h r54)⟩)]) (fun p49 h50 => (some ⟨2, [p49], (J.ds r31), h50⟩)),
     kv1 (J.vs r31) fun p153 => (some ⟨2, [p153], (J.ds r31), (J.h r31)⟩)]))) fun r16 => kcase (J.i r16) [kv7 (J.vs r16) fun data_154 a_155 b_156 limit_157 cmp_158 wasBalanced_159 wasPartitioned_160 =>
   (some ⟨0, [data_154, a_155, b_156, limit_157, cmp_158, wasBalanced_159, wasPartitioned_160], (J.ds r16), (J.h r16)⟩),
  kv0 (J.vs r16) ((some ⟨1, [], (J.ds r16), (J.h r16)⟩)),
  kv1 (J.vs r16) fun p161 => (some ⟨2, [p161], (J.ds r16), (J.h r16)⟩)]) rounds [data_1, a_2, b_3, limit_4, cmp_5, (.bool true), (.bool true)] [] h) fun r162 => kcase (J.i r162) [kv0 (J.vs r162) ((dleave (fun h163 => (some (false, (.tuple []), h163))) (J.ds r162) (J.h r162))),
 kv1 (J.vs r162) fun p164 => (kds (J.ds r162) (some (true, p164, (J.h r162))))]
theorem F24_ok {S : FS} {D : FD} (hS : SpecsOK Tryz.prog S) (hD : DynOK Tryz.prog D) : SpecOK Tryz.prog 24 (F24 S D) :=
  SpecOK.of (c := match Tryz.f24.body with | some c => c | none => .skip) (by kernel_rfl) hS hD ⟨Tryz.func24, rfl, by decide⟩
    (.seq .n (.seq .n (.one (.loop [0, 1, 2, 3, 4, 10, 11] [(.ret, []), (.pan, [])] (.join [(.norm, [0, 1, 2, 3, 4, 10, 11]), (.ret, []), (.pan, [])] (.one (.seq .n (.seq (.seq .n (.dup (.seq .n .n) .n)) (.seq (.seq .n (.dup (.seq .n .n) .n)) (.seq (.seq .n (.join [(.norm, [0, 1, 2, 3, 4, 10, 11, 12]), (.pan, [])] (.dup (.seq .n .n) .n))) (.seq .n (.seq (.seq .n (.join [(.norm, [0, 1, 2, 3, 4, 10, 11, 12, 13, 14]), (.pan, [])] (.dup (.seq .n (.seq .n .n)) .n))) (.seq (.seq .n (.join [(.norm, [0, 1, 2, 3, 4, 10, 11, 12, 13]), (.ret, []), (.pan, [])] (.dup (.seq .n (.dup .n .n)) .n))) (.seq (.seq .n (.dup (.seq .n (.seq .n .n)) .n)) (.seq .n (.seq .n (.seq .n (.seq .n (.seq .n (.join [(.norm, [0, 1, 2, 3, 4, 10, 11]), (.pan, [])] (.dup (.seq .n (.seq .n .n)) (.seq .n (.seq .n .n))))))))))))))))))))))) 5 (fun args h => by kernel_rfl)
/-- math/bits.Len -/
noncomputable def F25 (S : FS) (D : FD) (args : List AV) (h : Heap) : Option (Bool × AV × Heap) :=
 kv1 args fun x_1 =>
 kif (.bool false)
  (ob (kconvI .u32 x_1) fun v2 =>
  ob (S 58 [v2] h) fun r3 => kres r3 (fun v4 h5 =>
  (some (false, v4, h5))) (fun p6 h7 => (some (true, p6, h7))))
  (ob (S 59 [x_1] h) fun r8 => kres r8 (fun v9 h10 =>
  (some (false, v9, h10))) (fun p11 h12 => (some (true, p11, h12))))
theorem F25_ok {S : FS} {D : FD} (hS : SpecsOK Tryz.prog S) (hD : DynOK Tryz.prog D) : SpecOK Tryz.prog 25 (F25 S D) :=
  SpecOK.of (c := match Tryz.f25.body with | some c => c | none => .skip) (by kernel_rfl) hS hD ⟨Tryz.func25, rfl, by decide⟩
    (.seq .n (.seq (.dup (.seq .n .n) .n) (.seq .n .n))) 1 (fun args h => by kernel_rfl)
/-- cmp.Or[int] -/
noncomputable def F26 (S : FS) (D : FD) (args : List AV) (h : Heap) : Option (Bool × AV × Heap) :=
 kv1 args fun vals_1 =>
 ob (klenL vals_1) fun v2 =>
 ob (iterD (fun vs3 ds4 h5 => kv4 vs3 fun zero_6 v7 v8 v9 =>
  ob (kbinI .lss v9 v8) fun v10 =>
  kif v10
   (ob (kia 1 v7 v9) fun v11 =>
   ob (kload h5 v11) fun v12 =>
   ob (kbinI .neq v12 zero_6) fun v13 =>
   kif v13
    ((some ⟨2, [v12], ds4, h5⟩))
    (ob (kbinI .add v9 (.int .i64 (.ofNat 1))) fun v14 =>
    (some ⟨0, [zero_6, v7, v8, v14], ds4, h5⟩)))
   ((some ⟨1, [zero_6], ds4, h5⟩))) rounds [(.int .i64 (.ofNat 0)), vals_1, v2, (.int .i64 (.ofNat 0))] [] h) fun r15 => kcase (J.i r15) [kv1 (J.vs r15) fun zero_16 =>
  (dleave (fun h17 => (some (false, zero_16, h17))) (J.ds r15) (J.h r15)),
 kv1 (J.vs r15) fun v18 =>
  (dleave (fun h19 => (some (false, v18, h19))) (J.ds r15) (J.h r15))]
theorem F26_ok {S : FS} {D : FD} (hS : SpecsOK Tryz.prog S) (hD : DynOK Tryz.prog D) : SpecOK Tryz.prog 26 (F26 S D) :=
  SpecOK.of (c := match Tryz.f26.body with | some c => c | none => .skip) (by kernel_rfl) hS hD ⟨Tryz.func26, rfl, by decide⟩
    (.seq .n (.seq .n (.seq (.seq .n (.one (.loop [3, 6, 7, 8] [(.exit 0, [3]), (.ret, [2])] (.seq .n (.seq (.dup .n .n) (.seq (.one (.seq .n (.seq .n (.dup (.seq .n .n) .n)))) .n)))))) (.seq .n .n)))) 1 (fun args h => by kernel_rfl)
end Go.Rh.Tryz
