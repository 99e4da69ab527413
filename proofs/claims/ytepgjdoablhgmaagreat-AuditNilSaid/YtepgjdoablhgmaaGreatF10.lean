/- Printed by wip/tools/gen.py: functions of the program as plain functions over abstract values, each with its proof. -/
import Derived.Test.YtepgjdoablhgmaaGreatProg
import Derived.Test.YtepgjdoablhgmaaGreatRh3
set_option maxRecDepth 1000000
set_option linter.unusedVariables false
namespace Go.Rh.Tryz
open Go.Proofs
/-- (*roundhouse/node.asked).abort -/
noncomputable def F320 (S : FS) (D : FD) (args : List AV) (h : Heap) : Option (Bool × AV × Heap) :=
 kv1 args fun x_1 =>
 Heap.pushK h (.cells [(.bool false), (.int .i64 (.ofNat 0)), (.int .i64 (.ofNat 0)), (.int .i64 (.ofNat 0)), (.int .i64 (.ofNat 0)), (.int .i64 (.ofNat 0)), AV.nilslice, (.bool false), (.int .i64 (.ofNat 0)), (.int .i64 (.ofNat 0)), (.int .i64 (.ofNat 0)), (.int .i64 (.ofNat 0)), (.int .i64 (.ofNat 0)), (.int .i64 (.ofNat 0)), (.int .i64 (.ofNat 0)), (.str 0 0), (.bool false), (.bool false), (.bool false)] true 362) fun h2 =>
 ob (S 321 [x_1, (.int .i64 (.ofNat 0))] h2) fun r3 => kres r3 (fun v4 h5 =>
 kif v4
  (ob (S 337 [x_1, (.int .i64 (.ofNat 4)), (.int .i64 (.ofNat 0))] h5) fun r8 => kres r8 (fun v9 h10 =>
  Heap.pushK h10 (.cells [(.bool false), (.int .i64 (.ofNat 0)), (.int .i64 (.ofNat 0)), (.int .i64 (.ofNat 0)), (.int .i64 (.ofNat 0)), (.int .i64 (.ofNat 0)), AV.nilslice, (.bool false), (.int .i64 (.ofNat 0)), (.int .i64 (.ofNat 0)), (.int .i64 (.ofNat 0)), (.int .i64 (.ofNat 0)), (.int .i64 (.ofNat 0)), (.int .i64 (.ofNat 0)), (.int .i64 (.ofNat 0)), (.str 0 0), (.bool false), (.bool false), (.bool false)] true 362) fun h13 =>
  ob (kstore 19 (.ptr (Heap.next h10) 0) v9 h13) fun h14 =>
  ob (kfa 17 (.ptr (Heap.next h10) 0)) fun v15 =>
  ob (kstore 1 v15 (.bool true) h14) fun h16 =>
  ob (kloadN 19 h16 (.ptr (Heap.next h10) 0)) fun v17 =>
  ob (kstore 19 (.ptr (Heap.next h) 0) v17 h16) fun h18 =>
  ob (kloadN 19 h18 (.ptr (Heap.next h) 0)) fun v19 => (some (false, v19, h18))) (fun p11 h12 => (some (true, p11, h12))))
  (ob (knil x_1) fun v20 =>
  ob (kfa 22 v20) fun v21 =>
  ob (kload h5 v21) fun v22 =>
  ob (aun .not v22) fun v23 =>
  ob (kgv true v23 (some x_1)) fun v24 =>
  ob (kgc true v23 h5 (S 308 [v24] h5)) fun r25 => kres r25 (fun v26 h27 =>
  ob (kpick v23 v26 (.bool false)) fun v30 =>
  kif v30
   (ob (S 337 [x_1, (.int .i64 (.ofNat 2)), (.int .i64 (.ofNat 0))] h27) fun r31 => kres r31 (fun v32 h33 =>
   ob (kstore 19 (.ptr (Heap.next h) 0) v32 h33) fun h36 =>
   ob (kloadN 19 h36 (.ptr (Heap.next h) 0)) fun v37 => (some (false, v37, h36))) (fun p34 h35 => (some (true, p34, h35))))
   (ob (abuild Tryz.prog 362 []) fun v38 =>
   ob (kstore 19 (.ptr (Heap.next h) 0) v38 h27) fun h39 =>
   ob (kloadN 19 h39 (.ptr (Heap.next h) 0)) fun v40 => (some (false, v40, h39)))) (fun p28 h29 => (some (true, p28, h29))))) (fun p6 h7 => (some (true, p6, h7)))
theorem F320_ok {S : FS} {D : FD} (hS : SpecsOK Tryz.prog S) (hD : DynOK Tryz.prog D) : SpecOK Tryz.prog 320 (F320 S D) :=
  SpecOK.of (c := match Tryz.f320.body with | some c => c | none => .skip) (by kernel_rfl) hS hD ⟨Tryz.func320, rfl, by decide⟩
    (.seq .n (.seq (.one (.seq .n (.dup (.seq .n (.seq .n (.seq .n .n))) (.seq .n (.dup (.seq .n .n) .n))))) (.seq .n .n))) 1 (fun args h => by kernel_rfl)
/-- (*roundhouse/node.asked).phase -/
noncomputable def F321 (S : FS) (D : FD) (args : List AV) (h : Heap) : Option (Bool × AV × Heap) :=
 kv2 args fun x_1 phase_2 =>
 ob (knil x_1) fun v3 =>
 ob (kfa 22 v3) fun v4 =>
 ob (kload h v4) fun v5 =>
 ob (kgv true v5 (some x_1)) fun v6 =>
 ob (kgv true v5 (knil v6)) fun v7 =>
 ob (kgv true v5 (kfa 16 v7)) fun v8 =>
 ob (kgv true v5 (kfa 3 v8)) fun v9 =>
 ob (kgv true v5 (kload h v9)) fun v10 =>
 ob (kgv true v5 (some phase_2)) fun v11 =>
 ob (kgv true v5 (kbinI .eql v10 v11)) fun v12 =>
 ob (kpick v5 v12 (.bool false)) fun v13 =>
 (some (false, v13, h))
theorem F321_ok {S : FS} {D : FD} (hS : SpecsOK Tryz.prog S) (hD : DynOK Tryz.prog D) : SpecOK Tryz.prog 321 (F321 S D) :=
  SpecOK.of (c := match Tryz.f321.body with | some c => c | none => .skip) (by kernel_rfl) hS hD ⟨Tryz.func321, rfl, by decide⟩
    (.seq .n (.seq .n .n)) 2 (fun args h => by kernel_rfl)
/-- (*roundhouse/node.asked).finish -/
noncomputable def F322 (S : FS) (D : FD) (args : List AV) (h : Heap) : Option (Bool × AV × Heap) :=
 kv2 args fun x_1 f_2 =>
 knt f_2 (Heap.pushK h (.cells (AV.cells f_2) true 358) fun h3 =>
 Heap.pushK h3 (.cells [(.bool false), (.int .i64 (.ofNat 0)), (.int .i64 (.ofNat 0)), (.int .i64 (.ofNat 0)), (.int .i64 (.ofNat 0)), (.int .i64 (.ofNat 0)), AV.nilslice, (.bool false), (.int .i64 (.ofNat 0)), (.int .i64 (.ofNat 0)), (.int .i64 (.ofNat 0)), (.int .i64 (.ofNat 0)), (.int .i64 (.ofNat 0)), (.int .i64 (.ofNat 0)), (.int .i64 (.ofNat 0)), (.str 0 0), (.bool false), (.bool false), (.bool false)] true 362) fun h4 =>
 ob (knil x_1) fun v5 =>
 ob (kfa 15 v5) fun v6 =>
 ob (kload h4 v6) fun v7 =>
 ob (kgv true v7 (some x_1)) fun v8 =>
 ob (kgv true v7 (knil v8)) fun v9 =>
 ob (kgv true v7 (kfa 12 v9)) fun v10 =>
 ob (kgv true v7 (kfa 2 v10)) fun v11 =>
 ob (kgv true v7 (kload h4 v11)) fun v12 =>
 ob (kgv true v7 (kbinI .eql v12 (.int .i64 (.ofNat 2)))) fun v13 =>
 ob (kpick v7 v13 (.bool false)) fun v14 =>
 ob (kgv false v14 (some x_1)) fun v15 =>
 ob (kgv false v14 (knil v15)) fun v16 =>
 ob (kgv false v14 (kfa 15 v16)) fun v17 =>
 ob (kgv false v14 (kload h4 v17)) fun v18 =>
 ob (kgv false v14 (aun .not v18)) fun v19 =>
 ob (kgv false v14 (some v19)) fun v20 =>
 ob (kgv true v20 (some x_1)) fun v21 =>
 ob (kgc true v20 h4 (S 378 [v21] h4)) fun r22 => kres r22 (fun v23 h24 =>
 ob (kgv false v14 (kpick v20 v23 (.bool false))) fun v27 =>
 ob (kpick v14 (.bool true) v27) fun v28 =>
 kif v28
  (ob (abuild Tryz.prog 362 []) fun v29 =>
  ob (S 336 [x_1, v29, (.int .i64 (.ofNat 9)), (.int .i64 (.ofNat 0))] h24) fun r30 => kres r30 (fun v31 h32 =>
  ob (kstore 19 (.ptr (Heap.next h3) 0) v31 h32) fun h35 =>
  ob (kloadN 19 h35 (.ptr (Heap.next h3) 0)) fun v36 => (some (false, v36, h35))) (fun p33 h34 => (some (true, p33, h34))))
  (ob (knil x_1) fun v37 =>
  ob (kfa 15 v37) fun v38 =>
  ob (kload h24 v38) fun v39 =>
  ob (aun .not v39) fun v40 =>
  kif v40
   (ob (S 337 [x_1, (.int .i64 (.ofNat 7)), (.int .i64 (.ofNat 0))] h24) fun r41 => kres r41 (fun v42 h43 =>
   ob (S 336 [x_1, v42, (.int .i64 (.ofNat 9)), (.int .i64 (.ofNat 0))] h43) fun r46 => kres r46 (fun v47 h48 =>
   ob (kstore 19 (.ptr (Heap.next h3) 0) v47 h48) fun h51 =>
   ob (kloadN 19 h51 (.ptr (Heap.next h3) 0)) fun v52 => (some (false, v52, h51))) (fun p49 h50 => (some (true, p49, h50)))) (fun p44 h45 => (some (true, p44, h45))))
   (ob (knil x_1) fun v53 =>
   ob (kfa 9 v53) fun v54 =>
   ob (kloadN 3 h24 v54) fun v55 =>
   ob (knil x_1) fun v56 =>
   ob (kfa 0 v56) fun v57 =>
   ob (kfa 3 v57) fun v58 =>
   ob (kload h24 v58) fun v59 =>
   ob (knil x_1) fun v60 =>
   ob (kfa 0 v60) fun v61 =>
   ob (kfa 4 v61) fun v62 =>
   ob (kload h24 v62) fun v63 =>
   ob (S 284 [v55, v59, v63] h24) fun r64 => kres r64 (fun v65 h66 =>
   ob (kgv false v65 (kfa 3 (.ptr (Heap.next h) 0))) fun v69 =>
   ob (kgv false v65 (kload h66 v69)) fun v70 =>
   ob (kpick v65 (.bool true) v70) fun v71 =>
   kif v71
    (ob (abuild Tryz.prog 362 []) fun v72 =>
    ob (kstore 19 (.ptr (Heap.next h3) 0) v72 h66) fun h73 =>
    ob (kloadN 19 h73 (.ptr (Heap.next h3) 0)) fun v74 => (some (false, v74, h73)))
    (ob (kfa 2 (.ptr (Heap.next h) 0)) fun v75 =>
    ob (kload h66 v75) fun v76 =>
    ob (kfa 2 (.ptr (Heap.next h) 0)) fun v77 =>
    ob (kload h66 v77) fun v78 =>
    ob (amaxs false [v78, (.int .i64 (.ofNat 1))]) fun v79 =>
    ob (S 337 [x_1, (.int .i64 (.ofNat 6)), v76] h66) fun r80 => kres r80 (fun v81 h82 =>
    kre (kload h82 v77) v78 (ob (S 336 [x_1, v81, (.int .i64 (.ofNat 9)), v79] h82) fun r85 => kres r85 (fun v86 h87 =>
    ob (kstore 19 (.ptr (Heap.next h3) 0) v86 h87) fun h90 =>
    ob (kloadN 19 h90 (.ptr (Heap.next h3) 0)) fun v91 => (some (false, v91, h90))) (fun p88 h89 => (some (true, p88, h89))))) (fun p83 h84 => none))) (fun p67 h68 => (some (true, p67, h68)))))) (fun p25 h26 => (some (true, p25, h26))))
theorem F322_ok {S : FS} {D : FD} (hS : SpecsOK Tryz.prog S) (hD : DynOK Tryz.prog D) : SpecOK Tryz.prog 322 (F322 S D) :=
  SpecOK.of (c := match Tryz.f322.body with | some c => c | none => .skip) (by kernel_rfl) hS hD ⟨Tryz.func322, rfl, by decide⟩
    (.seq .n (.seq (.one (.seq .n (.dup (.seq .n .n) (.seq .n (.dup (.seq .n .n) (.seq .n (.dup (.seq .n .n) .n))))))) (.seq .n .n))) 2 (fun args h => by kernel_rfl)
/-- roundhouse/rec.Encode -/
noncomputable def F323 (S : FS) (D : FD) (args : List AV) (h : Heap) : Option (Bool × AV × Heap) :=
 kv1 args fun r_1 =>
 knt r_1 (Heap.pushK h (.cells (AV.cells r_1) true 167) fun h2 =>
 ob (kloadN 6 h2 (.ptr (Heap.next h) 0)) fun v3 =>
 ob (S 110 [v3] h2) fun r4 => kres r4 (fun v5 h6 =>
 ob (aun .not v5) fun v9 =>
 kif v9
  ((some (false, (.str 0 0), h6)))
  (ob (kfa 0 (.ptr (Heap.next h) 0)) fun v10 =>
  ob (kload h6 v10) fun v11 =>
  ob (kfa 1 (.ptr (Heap.next h) 0)) fun v12 =>
  ob (kload h6 v12) fun v13 =>
  ob (kfa 2 (.ptr (Heap.next h) 0)) fun v14 =>
  ob (kload h6 v14) fun v15 =>
  ob (kfa 3 (.ptr (Heap.next h) 0)) fun v16 =>
  ob (kload h6 v16) fun v17 =>
  ob (kfa 4 (.ptr (Heap.next h) 0)) fun v18 =>
  ob (kload h6 v18) fun v19 =>
  ob (abuild Tryz.prog 340 [(0, v11), (1, v13), (2, v15), (3, v17), (4, v19)]) fun v20 =>
  ob (iterD (fun vs21 ds22 h23 => kv4 vs21 fun r_24 s_25 v26 v27 =>
   ob (kbinI .lss v27 (.int .i64 (.ofNat 5))) fun v28 =>
   kif v28
    (ob (kixA 5 false 1 v26 v27) fun v29 =>
    ob (S 241 [v29] h23) fun r30 => kres r30 (fun v31 h32 =>
    ob (kbinS .add s_25 v31) fun v35 =>
    ob (kbinI .add v27 (.int .i64 (.ofNat 1))) fun v36 =>
    (some ⟨0, [r_24, v35, v26, v36], ds22, h32⟩)) (fun p33 h34 => (some ⟨2, [p33], ds22, h34⟩)))
    ((some ⟨1, [r_24, s_25], ds22, h23⟩))) rounds [(.ptr (Heap.next h) 0), (.str 0 0), v20, (.int .i64 (.ofNat 0))] [] h6) fun r37 => kcase (J.i r37) [kv2 (J.vs r37) fun r_38 s_39 =>
   ob (kfa 5 r_38) fun v40 =>
   ob (kload (J.h r37) v40) fun v41 =>
   ob (S 379 [v41] (J.h r37)) fun r42 => kres r42 (fun v43 h44 =>
   ob (kbinS .add s_39 v43) fun v47 =>
   (dleave (fun h48 => (some (false, v47, h48))) (J.ds r37) h44)) (fun p45 h46 => (kds (J.ds r37) (some (true, p45, h46)))),
  kv1 (J.vs r37) fun p49 => (kds (J.ds r37) (some (true, p49, (J.h r37))))])) (fun p7 h8 => (some (true, p7, h8))))
theorem F323_ok {S : FS} {D : FD} (hS : SpecsOK Tryz.prog S) (hD : DynOK Tryz.prog D) : SpecOK Tryz.prog 323 (F323 S D) :=
  SpecOK.of (c := match Tryz.f323.body with | some c => c | none => .skip) (by kernel_rfl) hS hD ⟨Tryz.func323, rfl, by decide⟩
    (.seq .n (.seq (.seq .n (.dup (.seq .n .n) .n)) (.seq .n (.seq (.seq .n (.one (.loop [1, 3, 19, 20] [(.exit 0, [1, 3]), (.pan, [])] (.seq .n (.seq (.dup .n .n) (.seq (.one (.seq .n .n)) .n)))))) (.seq .n .n))))) 1 (fun args h => by kernel_rfl)
/-- roundhouse/journal.Tear -/
noncomputable def F324 (S : FS) (D : FD) (args : List AV) (h : Heap) : Option (Bool × AV × Heap) :=
 kv4 args fun log_1 kind_2 s_3 k_4 =>
 ob (S 208 [kind_2, s_3] h) fun r5 => kres r5 (fun v6 h7 =>
 ob (amaxs true [k_4, (.int .i64 (.ofNat 0))]) fun v10 =>
 ob (klenS v6) fun v11 =>
 ob (amaxs false [v10, v11]) fun v12 =>
 ob (aslice Tryz.prog 9 v6 none (some v12) none) fun v13 =>
 ob (kbinS .add log_1 v13) fun v14 =>
 (some (false, v14, h7))) (fun p8 h9 => (some (true, p8, h9)))
theorem F324_ok {S : FS} {D : FD} (hS : SpecsOK Tryz.prog S) (hD : DynOK Tryz.prog D) : SpecOK Tryz.prog 324 (F324 S D) :=
  SpecOK.of (c := match Tryz.f324.body with | some c => c | none => .skip) (by kernel_rfl) hS hD ⟨Tryz.func324, rfl, by decide⟩
    (.seq .n (.seq .n (.seq .n .n))) 4 (fun args h => by kernel_rfl)
/-- roundhouse/journal.Append -/
noncomputable def F325 (S : FS) (D : FD) (args : List AV) (h : Heap) : Option (Bool × AV × Heap) :=
 kv3 args fun log_1 kind_2 s_3 =>
 ob (S 206 [kind_2] h) fun r4 => kres r4 (fun v5 h6 =>
 ob (aun .not v5) fun v9 =>
 kif v9
  ((some (false, (.tuple [log_1, (.int .i64 (.ofNat 1))]), h6)))
  (ob (klenS s_3) fun v10 =>
  ob (kbinI .gtr v10 (.int .i64 (.ofNat 4096))) fun v11 =>
  kif v11
   ((some (false, (.tuple [log_1, (.int .i64 (.ofNat 3))]), h6)))
   (ob (S 208 [kind_2, s_3] h6) fun r12 => kres r12 (fun v13 h14 =>
   ob (kbinS .add log_1 v13) fun v17 =>
   (some (false, (.tuple [v17, (.int .i64 (.ofNat 0))]), h14))) (fun p15 h16 => (some (true, p15, h16)))))) (fun p7 h8 => (some (true, p7, h8)))
theorem F325_ok {S : FS} {D : FD} (hS : SpecsOK Tryz.prog S) (hD : DynOK Tryz.prog D) : SpecOK Tryz.prog 325 (F325 S D) :=
  SpecOK.of (c := match Tryz.f325.body with | some c => c | none => .skip) (by kernel_rfl) hS hD ⟨Tryz.func325, rfl, by decide⟩
    (.seq .n (.seq (.one (.seq .n (.dup (.seq .n .n) (.seq .n (.dup (.seq .n .n) .n))))) (.seq .n .n))) 3 (fun args h => by kernel_rfl)
/-- (*roundhouse/pool.Pool).Commit -/
noncomputable def F326 (S : FS) (D : FD) (args : List AV) (h : Heap) : Option (Bool × AV × Heap) :=
 kv2 args fun p_1 owner_2 =>
 ob (kbinO Tryz.prog .eql 86 true p_1 AV.nilptr) fun v3 =>
 kif v3
  ((some (false, (.int .i64 (.ofNat 1)), h)))
  (ob (knil p_1) fun v4 =>
  ob (kfa 2 v4) fun v5 =>
  ob (kload h v5) fun v6 =>
  ob (alookup Tryz.prog h 201 v6 owner_2 true) fun v7 =>
  ob (aextract v7 0) fun v8 =>
  ob (aextract v7 1) fun v9 =>
  Heap.pushK h (.cells [(.int .u64 (.ofNat 0)), (.int .u64 (.ofNat 0)), (.int .u64 (.ofNat 0)), (.int .u64 (.ofNat 0)), (.bool false)] true 205) fun h10 =>
  ob (kstore 5 (.ptr (Heap.next h) 0) v8 h10) fun h11 =>
  ob (aun .not v9) fun v12 =>
  ob (kgv false v12 (kfa 4 (.ptr (Heap.next h) 0))) fun v13 =>
  ob (kgv false v12 (kload h11 v13)) fun v14 =>
  ob (kpick v12 (.bool true) v14) fun v15 =>
  kif v15
   ((some (false, (.int .i64 (.ofNat 14)), h11)))
   (ob (kfa 4 (.ptr (Heap.next h) 0)) fun v16 =>
   ob (kstore 1 v16 (.bool true) h11) fun h17 =>
   ob (knil p_1) fun v18 =>
   ob (kfa 2 v18) fun v19 =>
   ob (kload h17 v19) fun v20 =>
   ob (kloadN 5 h17 (.ptr (Heap.next h) 0)) fun v21 =>
   ob (amapSet Tryz.prog h17 201 v20 owner_2 v21) fun h22 =>
   (some (false, (.int .i64 (.ofNat 0)), h22))))
theorem F326_ok {S : FS} {D : FD} (hS : SpecsOK Tryz.prog S) (hD : DynOK Tryz.prog D) : SpecOK Tryz.prog 326 (F326 S D) :=
  SpecOK.of (c := match Tryz.f326.body with | some c => c | none => .skip) (by kernel_rfl) hS hD ⟨Tryz.func326, rfl, by decide⟩
    (.seq .n (.seq (.seq .n (.dup (.seq .n .n) .n)) (.seq .n (.seq (.seq .n (.dup (.seq .n .n) .n)) (.seq .n (.seq .n (.seq .n .n))))))) 2 (fun args h => by kernel_rfl)
/-- roundhouse/procs.is -/
noncomputable def F327 (S : FS) (D : FD) (args : List AV) (h : Heap) : Option (Bool × AV × Heap) :=
 kv1 args fun state_1 =>
 knt state_1 (Heap.pushK h (.cells (AV.cells state_1) true 3) fun h2 =>
 (some (false, (.func 380 [(.ptr (Heap.next h) 0)]), h2)))
theorem F327_ok {S : FS} {D : FD} (hS : SpecsOK Tryz.prog S) (hD : DynOK Tryz.prog D) : SpecOK Tryz.prog 327 (F327 S D) :=
  SpecOK.of (c := match Tryz.f327.body with | some c => c | none => .skip) (by kernel_rfl) hS hD ⟨Tryz.func327, rfl, by decide⟩
    (.seq .n (.seq .n .n)) 1 (fun args h => by kernel_rfl)
/-- (*roundhouse/agent.Agent).tasks$1 -/
noncomputable def F328 (S : FS) (D : FD) (args : List AV) (h : Heap) : Option (Bool × AV × Heap) :=
 kv2 args fun x_1 v2 =>
 knt x_1 (Heap.pushK h (.cells (AV.cells x_1) true 39) fun h3 =>
 ob (kload h3 v2) fun v4 =>
 ob (kfa 0 (.ptr (Heap.next h) 0)) fun v5 =>
 ob (kload h3 v5) fun v6 =>
 ob (S 114 [v4, v6] h3) fun r7 => kres r7 (fun v8 h9 =>
 ob (aun .not v8) fun v12 =>
 (some (false, v12, h9))) (fun p10 h11 => (some (true, p10, h11))))
theorem F328_ok {S : FS} {D : FD} (hS : SpecsOK Tryz.prog S) (hD : DynOK Tryz.prog D) : SpecOK Tryz.prog 328 (F328 S D) :=
  SpecOK.of (c := match Tryz.f328.body with | some c => c | none => .skip) (by kernel_rfl) hS hD ⟨Tryz.func328, rfl, by decide⟩
    (.seq .n (.seq .n .n)) 2 (fun args h => by kernel_rfl)
/-- (*roundhouse/acct.Book).Note -/
noncomputable def F329 (S : FS) (D : FD) (args : List AV) (h : Heap) : Option (Bool × AV × Heap) :=
 kv2 args fun b_1 u_2 =>
 knt u_2 (Heap.pushK h (.cells (AV.cells u_2) true 436) fun h3 =>
 ob (kbinO Tryz.prog .eql 76 true b_1 AV.nilptr) fun v4 =>
 kif v4
  ((some (false, (.int .i64 (.ofNat 1)), h3)))
  (ob (kloadN 4 h3 (.ptr (Heap.next h) 0)) fun v5 =>
  ob (S 381 [v5] h3) fun r6 => kres r6 (fun v7 h8 =>
  ob (aextract v7 0) fun v11 =>
  ob (aextract v7 1) fun v12 =>
  ob (kbinI .eql v12 (.int .i64 (.ofNat 0))) fun v13 =>
  ob (kif v13
   (ob (knil b_1) fun v15 =>
   ob (kfa 0 v15) fun v16 =>
   ob (kload h8 v16) fun v17 =>
   ob (kfa 0 (.ptr (Heap.next h) 0)) fun v18 =>
   ob (kload h8 v18) fun v19 =>
   ob (knil b_1) fun v20 =>
   ob (kfa 0 v20) fun v21 =>
   ob (kload h8 v21) fun v22 =>
   ob (kfa 0 (.ptr (Heap.next h) 0)) fun v23 =>
   ob (kload h8 v23) fun v24 =>
   ob (alookup Tryz.prog h8 88 v22 v24 false) fun v25 =>
   ob (S 382 [v25, v11] h8) fun r26 => kres r26 (fun v27 h28 =>
   kre (kload h28 v18) v19 (kre (kload h28 v16) v17 (ob (amapSet Tryz.prog h28 88 v17 v19 v27) fun h31 =>
   (some ⟨0, [v12], [], h31⟩)))) (fun p29 h30 => none))
   ((some ⟨0, [v12], [], h8⟩))) fun r14 => kcase (J.i r14) [kv1 (J.vs r14) fun e_32 =>
   (dleave (fun h33 => (some (false, e_32, h33))) (J.ds r14) (J.h r14)),
  kv1 (J.vs r14) fun p34 => (kds (J.ds r14) (some (true, p34, (J.h r14))))]) (fun p9 h10 => (some (true, p9, h10)))))
theorem F329_ok {S : FS} {D : FD} (hS : SpecsOK Tryz.prog S) (hD : DynOK Tryz.prog D) : SpecOK Tryz.prog 329 (F329 S D) :=
  SpecOK.of (c := match Tryz.f329.body with | some c => c | none => .skip) (by kernel_rfl) hS hD ⟨Tryz.func329, rfl, by decide⟩
    (.seq .n (.seq (.seq .n (.dup (.seq .n .n) .n)) (.seq .n (.seq (.seq .n (.join [(.norm, [6]), (.pan, [])] (.dup .n .n))) (.seq .n .n))))) 2 (fun args h => by kernel_rfl)
/-- (*roundhouse/procs.Table).Reap -/
noncomputable def F330 (S : FS) (D : FD) (args : List AV) (h : Heap) : Option (Bool × AV × Heap) :=
 kv2 args fun t_1 pid_2 =>
 Heap.pushK h (.cells [(.int .i64 (.ofNat 0)), (.int .i64 (.ofNat 0)), (.int .i64 (.ofNat 0)), (.int .i64 (.ofNat 0)), (.int .i64 (.ofNat 0)), AV.nilslice, (.int .i64 (.ofNat 0)), (.int .i64 (.ofNat 0))] true 39) fun h3 =>
 ob (S 327 [(.int .i64 (.ofNat 2))] h3) fun r4 => kres r4 (fun v5 h6 =>
 ob (S 294 [t_1, pid_2, v5] h6) fun r9 => kres r9 (fun v10 h11 =>
 ob (aextract v10 0) fun v14 =>
 ob (aextract v10 1) fun v15 =>
 ob (kbinI .neq v15 (.int .i64 (.ofNat 0))) fun v16 =>
 kif v16
  (ob (abuild Tryz.prog 39 []) fun v17 =>
  ob (kstore 8 (.ptr (Heap.next h) 0) v17 h11) fun h18 =>
  ob (kloadN 8 h18 (.ptr (Heap.next h) 0)) fun v19 => (some (false, (.tuple [v19, v15]), h18)))
  (ob (knil t_1) fun v20 =>
  ob (kfa 0 v20) fun v21 =>
  ob (kload h11 v21) fun v22 =>
  ob (amapDel Tryz.prog h11 134 v22 pid_2) fun h23 =>
  ob (knil v14) fun v24 =>
  ob (kfa 0 v24) fun v25 =>
  ob (kloadN 8 h23 v25) fun v26 =>
  ob (kstore 8 (.ptr (Heap.next h) 0) v26 h23) fun h27 =>
  ob (kloadN 8 h27 (.ptr (Heap.next h) 0)) fun v28 => (some (false, (.tuple [v28, (.int .i64 (.ofNat 0))]), h27)))) (fun p12 h13 => (some (true, p12, h13)))) (fun p7 h8 => (some (true, p7, h8)))
theorem F330_ok {S : FS} {D : FD} (hS : SpecsOK Tryz.prog S) (hD : DynOK Tryz.prog D) : SpecOK Tryz.prog 330 (F330 S D) :=
  SpecOK.of (c := match Tryz.f330.body with | some c => c | none => .skip) (by kernel_rfl) hS hD ⟨Tryz.func330, rfl, by decide⟩
    (.seq .n (.seq .n (.seq (.seq .n (.dup (.seq .n .n) .n)) (.seq .n (.seq .n .n))))) 2 (fun args h => by kernel_rfl)
/-- (roundhouse/mask.Mask).Or$1 -/
noncomputable def F331 (S : FS) (D : FD) (args : List AV) (h : Heap) : Option (Bool × AV × Heap) :=
 kv2 args fun a_1 b_2 =>
 ob (kbinI .or a_1 b_2) fun v3 =>
 (some (false, v3, h))
theorem F331_ok {S : FS} {D : FD} (hS : SpecsOK Tryz.prog S) (hD : DynOK Tryz.prog D) : SpecOK Tryz.prog 331 (F331 S D) :=
  SpecOK.of (c := match Tryz.f331.body with | some c => c | none => .skip) (by kernel_rfl) hS hD ⟨Tryz.func331, rfl, by decide⟩
    (.seq .n (.seq .n .n)) 2 (fun args h => by kernel_rfl)
/-- (*roundhouse/pool.Pool).fresh -/
noncomputable def F332 (S : FS) (D : FD) (args : List AV) (h : Heap) : Option (Bool × AV × Heap) :=
 kv2 args fun p_1 owner_2 =>
 ob (kbinO Tryz.prog .eql 86 true p_1 AV.nilptr) fun v3 =>
 ob (kgv false v3 (some owner_2)) fun v4 =>
 ob (kgc false v3 h (S 383 [v4] h)) fun r5 => kres r5 (fun v6 h7 =>
 ob (kgv false v3 (aun .not v6)) fun v10 =>
 ob (kpick v3 (.bool true) v10) fun v11 =>
 kif v11
  ((some (false, (.int .i64 (.ofNat 1)), h7)))
  (ob (knil p_1) fun v12 =>
  ob (kfa 2 v12) fun v13 =>
  ob (kload h7 v13) fun v14 =>
  ob (alookup Tryz.prog h7 201 v14 owner_2 true) fun v15 =>
  ob (aextract v15 0) fun v16 =>
  ob (aextract v15 1) fun v17 =>
  Heap.pushK h7 (.cells [(.int .u64 (.ofNat 0)), (.int .u64 (.ofNat 0)), (.int .u64 (.ofNat 0)), (.int .u64 (.ofNat 0)), (.bool false)] true 205) fun h18 =>
  ob (kstore 5 (.ptr (Heap.next h7) 0) v16 h18) fun h19 =>
  kif v17
   ((some (false, (.int .i64 (.ofNat 14)), h19)))
   ((some (false, (.int .i64 (.ofNat 0)), h19))))) (fun p8 h9 => (some (true, p8, h9)))
theorem F332_ok {S : FS} {D : FD} (hS : SpecsOK Tryz.prog S) (hD : DynOK Tryz.prog D) : SpecOK Tryz.prog 332 (F332 S D) :=
  SpecOK.of (c := match Tryz.f332.body with | some c => c | none => .skip) (by kernel_rfl) hS hD ⟨Tryz.func332, rfl, by decide⟩
    (.seq .n (.seq (.seq .n (.dup (.seq .n .n) .n)) (.seq (.seq .n (.seq .n (.dup (.seq .n .n) .n))) (.seq .n .n)))) 2 (fun args h => by kernel_rfl)
/-- (*roundhouse/procs.Table).Release -/
noncomputable def F333 (S : FS) (D : FD) (args : List AV) (h : Heap) : Option (Bool × AV × Heap) :=
 kv2 args fun t_1 pid_2 =>
 ob (S 327 [(.int .i64 (.ofNat 0))] h) fun r3 => kres r3 (fun v4 h5 =>
 ob (S 294 [t_1, pid_2, v4] h5) fun r8 => kres r8 (fun v9 h10 =>
 ob (aextract v9 0) fun v13 =>
 ob (aextract v9 1) fun v14 =>
 ob (kbinI .eql v14 (.int .i64 (.ofNat 0))) fun v15 =>
 ob (kif v15
  (ob (knil v13) fun v17 =>
  ob (kfa 0 v17) fun v18 =>
  ob (kfa 6 v18) fun v19 =>
  ob (kstore 1 v19 (.int .i64 (.ofNat 1)) h10) fun h20 =>
  (some ⟨0, [v14], [], h20⟩))
  ((some ⟨0, [v14], [], h10⟩))) fun r16 => kcase (J.i r16) [kv1 (J.vs r16) fun e_21 =>
  (dleave (fun h22 => (some (false, e_21, h22))) (J.ds r16) (J.h r16))]) (fun p11 h12 => (some (true, p11, h12)))) (fun p6 h7 => (some (true, p6, h7)))
theorem F333_ok {S : FS} {D : FD} (hS : SpecsOK Tryz.prog S) (hD : DynOK Tryz.prog D) : SpecOK Tryz.prog 333 (F333 S D) :=
  SpecOK.of (c := match Tryz.f333.body with | some c => c | none => .skip) (by kernel_rfl) hS hD ⟨Tryz.func333, rfl, by decide⟩
    (.seq .n (.seq .n (.seq (.seq .n (.join [(.norm, [6])] (.dup .n .n))) (.seq .n .n)))) 2 (fun args h => by kernel_rfl)
/-- roundhouse/node.Exit$1 -/
noncomputable def F334 (S : FS) (D : FD) (args : List AV) (h : Heap) : Option (Bool × AV × Heap) :=
 kv1 args fun c_1 =>
 ob (S 307 [c_1, (.int .i64 (.ofNat 0)), (.int .i64 (.ofNat 255))] h) fun r2 => kres r2 (fun v3 h4 =>
 ob (aun .not v3) fun v7 =>
 (some (false, v7, h4))) (fun p5 h6 => (some (true, p5, h6)))
theorem F334_ok {S : FS} {D : FD} (hS : SpecsOK Tryz.prog S) (hD : DynOK Tryz.prog D) : SpecOK Tryz.prog 334 (F334 S D) :=
  SpecOK.of (c := match Tryz.f334.body with | some c => c | none => .skip) (by kernel_rfl) hS hD ⟨Tryz.func334, rfl, by decide⟩
    (.seq .n (.seq .n .n)) 1 (fun args h => by kernel_rfl)
/-- roundhouse/tally.Worst -/
noncomputable def F335 (S : FS) (D : FD) (args : List AV) (h : Heap) : Option (Bool × AV × Heap) :=
 kv1 args fun l_1 =>
 ob (klenL l_1) fun v2 =>
 ob (kbinI .eql v2 (.int .i64 (.ofNat 0))) fun v3 =>
 kif v3
  ((some (false, (.int .i64 (.ofNat 0)), h)))
  (ob (S 177 [l_1] h) fun r4 => kres r4 (fun v5 h6 =>
  (some (false, v5, h6))) (fun p7 h8 => (some (true, p7, h8))))
theorem F335_ok {S : FS} {D : FD} (hS : SpecsOK Tryz.prog S) (hD : DynOK Tryz.prog D) : SpecOK Tryz.prog 335 (F335 S D) :=
  SpecOK.of (c := match Tryz.f335.body with | some c => c | none => .skip) (by kernel_rfl) hS hD ⟨Tryz.func335, rfl, by decide⟩
    (.seq .n (.seq (.seq .n (.dup (.seq .n .n) .n)) (.seq .n .n))) 1 (fun args h => by kernel_rfl)
/-- (*roundhouse/node.asked).answer -/
noncomputable def F336 (S : FS) (D : FD) (args : List AV) (h : Heap) : Option (Bool × AV × Heap) :=
 kv4 args fun x_1 a_2 kind_3 arg_4 =>
 knt a_2 (Heap.pushK h (.cells (AV.cells a_2) true 362) fun h5 =>
 Heap.pushK h5 (.cells [(.bool false), (.int .i64 (.ofNat 0)), (.int .i64 (.ofNat 0)), (.int .i64 (.ofNat 0)), (.int .i64 (.ofNat 0)), (.int .i64 (.ofNat 0)), AV.nilslice, (.bool false), (.int .i64 (.ofNat 0)), (.int .i64 (.ofNat 0)), (.int .i64 (.ofNat 0)), (.int .i64 (.ofNat 0)), (.int .i64 (.ofNat 0)), (.int .i64 (.ofNat 0)), (.int .i64 (.ofNat 0)), (.str 0 0), (.bool false), (.bool false), (.bool false)] true 362) fun h6 =>
 ob (kfa 7 (.ptr (Heap.next h) 0)) fun v7 =>
 ob (kstore 1 v7 (.bool true) h6) fun h8 =>
 ob (knil x_1) fun v9 =>
 ob (kfa 8 v9) fun v10 =>
 ob (kload h8 v10) fun v11 =>
 ob (knil x_1) fun v12 =>
 ob (kfa 0 v12) fun v13 =>
 ob (kfa 3 v13) fun v14 =>
 ob (kload h8 v14) fun v15 =>
 ob (knil x_1) fun v16 =>
 ob (kfa 0 v16) fun v17 =>
 ob (kfa 4 v17) fun v18 =>
 ob (kload h8 v18) fun v19 =>
 ob (knil x_1) fun v20 =>
 ob (kfa 0 v20) fun v21 =>
 ob (kfa 5 v21) fun v22 =>
 ob (kload h8 v22) fun v23 =>
 ob (abuild Tryz.prog 300 [(0, kind_3), (1, v11), (2, (.int .i64 (.negSucc 0))), (3, v15), (4, v19), (5, v23), (6, arg_4)]) fun v24 =>
 ob (kfa 8 (.ptr (Heap.next h) 0)) fun v25 =>
 ob (kstore 8 v25 v24 h8) fun h26 =>
 ob (kloadN 19 h26 (.ptr (Heap.next h) 0)) fun v27 =>
 ob (kstore 19 (.ptr (Heap.next h5) 0) v27 h26) fun h28 =>
 ob (kloadN 19 h28 (.ptr (Heap.next h5) 0)) fun v29 => (some (false, v29, h28)))
theorem F336_ok {S : FS} {D : FD} (hS : SpecsOK Tryz.prog S) (hD : DynOK Tryz.prog D) : SpecOK Tryz.prog 336 (F336 S D) :=
  SpecOK.of (c := match Tryz.f336.body with | some c => c | none => .skip) (by kernel_rfl) hS hD ⟨Tryz.func336, rfl, by decide⟩
    (.seq .n (.seq .n (.seq .n (.seq .n .n)))) 4 (fun args h => by kernel_rfl)
/-- (*roundhouse/node.asked).write -/
noncomputable def F337 (S : FS) (D : FD) (args : List AV) (h : Heap) : Option (Bool × AV × Heap) :=
 kv3 args fun x_1 kind_2 arg_3 =>
 Heap.pushK h (.cells [(.bool false), (.int .i64 (.ofNat 0)), (.int .i64 (.ofNat 0)), (.int .i64 (.ofNat 0)), (.int .i64 (.ofNat 0)), (.int .i64 (.ofNat 0)), AV.nilslice, (.bool false), (.int .i64 (.ofNat 0)), (.int .i64 (.ofNat 0)), (.int .i64 (.ofNat 0)), (.int .i64 (.ofNat 0)), (.int .i64 (.ofNat 0)), (.int .i64 (.ofNat 0)), (.int .i64 (.ofNat 0)), (.str 0 0), (.bool false), (.bool false), (.bool false)] true 362) fun h4 =>
 ob (knil x_1) fun v5 =>
 ob (kfa 0 v5) fun v6 =>
 ob (kfa 3 v6) fun v7 =>
 ob (kload h4 v7) fun v8 =>
 ob (knil x_1) fun v9 =>
 ob (kfa 0 v9) fun v10 =>
 ob (kfa 4 v10) fun v11 =>
 ob (kload h4 v11) fun v12 =>
 ob (knil x_1) fun v13 =>
 ob (kfa 0 v13) fun v14 =>
 ob (kfa 5 v14) fun v15 =>
 ob (kload h4 v15) fun v16 =>
 ob (abuild Tryz.prog 167 [(0, kind_2), (1, v8), (2, v12), (3, v16), (4, arg_3)]) fun v17 =>
 kfree h4 (Heap.pushK h4 (.cells [(.int .i64 (.ofNat 0)), (.int .i64 (.ofNat 0)), (.int .i64 (.ofNat 0)), (.int .i64 (.ofNat 0)), (.int .i64 (.ofNat 0)), AV.nilslice] true 167) fun h18 =>
 ob (kstore 6 (.ptr (Heap.next h4) 0) v17 h18) fun h19 =>
 ob (kbinI .eql kind_2 (.int .i64 (.ofNat 0))) fun v20 =>
 ob (kgv false v20 (some kind_2)) fun v21 =>
 ob (kgv false v20 (kbinI .geq v21 (.int .i64 (.ofNat 6)))) fun v22 =>
 ob (kpick v20 (.bool true) v22) fun v23 =>
 ob (kif v23
  (ob (kfa 3 (.ptr (Heap.next h4) 0)) fun v25 =>
  ob (kstore 1 v25 (.int .i64 (.ofNat 0)) h19) fun h26 =>
  (some ⟨0, [(.ptr (Heap.next h) 0), (.ptr (Heap.next h4) 0)], [], h26⟩))
  ((some ⟨0, [(.ptr (Heap.next h) 0), (.ptr (Heap.next h4) 0)], [], h19⟩))) fun r24 => kcase (J.i r24) [kv2 (J.vs r24) fun v27 r_28 =>
  ob (kloadN 6 (J.h r24) r_28) fun v29 =>
  ob (abuild Tryz.prog 362 [(0, (.bool true)), (1, v29)]) fun v30 =>
  ob (kstore 19 v27 v30 (J.h r24)) fun h31 =>
  (dleave (fun h32 => ob (kloadN 19 h32 v27) fun v33 => (some (false, v33, h32))) (J.ds r24) h31)])
theorem F337_ok {S : FS} {D : FD} (hS : SpecsOK Tryz.prog S) (hD : DynOK Tryz.prog D) : SpecOK Tryz.prog 337 (F337 S D) :=
  SpecOK.of (c := match Tryz.f337.body with | some c => c | none => .skip) (by kernel_rfl) hS hD ⟨Tryz.func337, rfl, by decide⟩
    (.seq .n (.seq .n (.seq (.seq .n (.join [(.norm, [6, 7])] (.dup .n .n))) (.seq .n .n)))) 3 (fun args h => by kernel_rfl)
/-- slices.Backward[[]int,int]$1 -/
noncomputable def F338 (S : FS) (D : FD) (args : List AV) (h : Heap) : Option (Bool × AV × Heap) :=
 kv2 args fun yield_1 v2 =>
 ob (kload h v2) fun v3 =>
 ob (klenL v3) fun v4 =>
 ob (kbinI .sub v4 (.int .i64 (.ofNat 1))) fun v5 =>
 ob (iterD (fun vs6 ds7 h8 => kv3 vs6 fun yield_9 v10 i_11 =>
  ob (kbinI .geq i_11 (.int .i64 (.ofNat 0))) fun v12 =>
  kif v12
   (ob (kload h8 v10) fun v13 =>
   ob (kia 1 v13 i_11) fun v14 =>
   ob (kload h8 v14) fun v15 =>
   ob (D yield_9 [i_11, v15] h8) fun r16 => kres r16 (fun v17 h18 =>
   ob (aun .not v17) fun v21 =>
   kif v21
    ((some ⟨2, [], ds7, h18⟩))
    (ob (kbinI .sub i_11 (.int .i64 (.ofNat 1))) fun v22 =>
    (some ⟨0, [yield_9, v10, v22], ds7, h18⟩))) (fun p19 h20 => (some ⟨3, [p19], ds7, h20⟩)))
   ((some ⟨1, [], ds7, h8⟩))) rounds [yield_1, v2, v5] [] h) fun r23 => kcase (J.i r23) [kv0 (J.vs r23) ((dleave (fun h24 => (some (false, (.tuple []), h24))) (J.ds r23) (J.h r23))),
 kv0 (J.vs r23) ((dleave (fun h25 => (some (false, (.tuple []), h25))) (J.ds r23) (J.h r23))),
 kv1 (J.vs r23) fun p26 => (kds (J.ds r23) (some (true, p26, (J.h r23))))]
theorem F338_ok {S : FS} {D : FD} (hS : SpecsOK Tryz.prog S) (hD : DynOK Tryz.prog D) : SpecOK Tryz.prog 338 (F338 S D) :=
  SpecOK.of (c := match Tryz.f338.body with | some c => c | none => .skip) (by kernel_rfl) hS hD ⟨Tryz.func338, rfl, by decide⟩
    (.seq .n (.one (.loop [0, 1, 3] [(.exit 0, []), (.ret, []), (.pan, [])] (.seq (.seq .n (.dup .n .n)) (.seq (.one (.seq .n (.dup .n .n))) .n))))) 2 (fun args h => by kernel_rfl)
/-- roundhouse/dag.with -/
noncomputable def F339 (S : FS) (D : FD) (args : List AV) (h : Heap) : Option (Bool × AV × Heap) :=
 kv2 args fun l_1 codes_2 =>
 ob (S 181 [l_1] h) fun r3 => kres r3 (fun v4 h5 =>
 ob (kbinI .neq v4 (.int .i64 (.ofNat 0))) fun v8 =>
 kif v8
  ((some (false, v4, h5)))
  (ob (klenL codes_2) fun v9 =>
  ob (klenL l_1) fun v10 =>
  ob (kbinI .neq v9 v10) fun v11 =>
  ob (kgv false v11 (some codes_2)) fun v12 =>
  ob (kgc false v11 h5 (S 169 [v12, (.func 384 [])] h5)) fun r13 => kres r13 (fun v14 h15 =>
  ob (kpick v11 (.bool true) v14) fun v18 =>
  kif v18
   ((some (false, (.int .i64 (.ofNat 5)), h15)))
   ((some (false, (.int .i64 (.ofNat 0)), h15)))) (fun p16 h17 => (some (true, p16, h17))))) (fun p6 h7 => (some (true, p6, h7)))
theorem F339_ok {S : FS} {D : FD} (hS : SpecsOK Tryz.prog S) (hD : DynOK Tryz.prog D) : SpecOK Tryz.prog 339 (F339 S D) :=
  SpecOK.of (c := match Tryz.f339.body with | some c => c | none => .skip) (by kernel_rfl) hS hD ⟨Tryz.func339, rfl, by decide⟩
    (.seq .n (.seq (.seq .n (.seq .n (.dup (.seq .n .n) .n))) (.seq (.seq .n (.dup (.seq .n .n) .n)) (.seq .n .n)))) 2 (fun args h => by kernel_rfl)
/-- roundhouse/dag.Settle$1 -/
noncomputable def F340 (S : FS) (D : FD) (args : List AV) (h : Heap) : Option (Bool × AV × Heap) :=
 kv2 args fun e_1 v2 =>
 knt e_1 (Heap.pushK h (.cells (AV.cells e_1) true 231) fun h3 =>
 ob (kload h3 v2) fun v4 =>
 ob (kfa 0 (.ptr (Heap.next h) 0)) fun v5 =>
 ob (kload h3 v5) fun v6 =>
 ob (kia 1 v4 v6) fun v7 =>
 ob (kload h3 v7) fun v8 =>
 ob (kbinI .neq v8 (.int .i64 (.negSucc 0))) fun v9 =>
 ob (kgv true v9 (kloadN 2 h3 (.ptr (Heap.next h) 0))) fun v10 =>
 ob (kgv true v9 (kload h3 v2)) fun v11 =>
 ob (kgc true v9 h3 (S 341 [v10, v11] h3)) fun r12 => kres r12 (fun v13 h14 =>
 ob (kgv true v9 (aun .not v13)) fun v17 =>
 ob (kpick v9 v17 (.bool false)) fun v18 =>
 (some (false, v18, h14))) (fun p15 h16 => (some (true, p15, h16))))
theorem F340_ok {S : FS} {D : FD} (hS : SpecsOK Tryz.prog S) (hD : DynOK Tryz.prog D) : SpecOK Tryz.prog 340 (F340 S D) :=
  SpecOK.of (c := match Tryz.f340.body with | some c => c | none => .skip) (by kernel_rfl) hS hD ⟨Tryz.func340, rfl, by decide⟩
    (.seq .n (.seq .n .n)) 2 (fun args h => by kernel_rfl)
/-- roundhouse/dag.holds -/
noncomputable def F341 (S : FS) (D : FD) (args : List AV) (h : Heap) : Option (Bool × AV × Heap) :=
 kv2 args fun e_1 codes_2 =>
 knt e_1 (Heap.pushK h (.cells (AV.cells e_1) true 231) fun h3 =>
 ob (kfa 0 (.ptr (Heap.next h) 0)) fun v4 =>
 ob (kload h3 v4) fun v5 =>
 ob (kia 1 codes_2 v5) fun v6 =>
 ob (kload h3 v6) fun v7 =>
 ob (kfa 1 (.ptr (Heap.next h) 0)) fun v8 =>
 ob (kload h3 v8) fun v9 =>
 ob (kbinI .eql v9 (.int .i64 (.ofNat 0))) fun v10 =>
 kif v10
  (ob (kbinI .eql v7 (.int .i64 (.ofNat 0))) fun v11 =>
  (some (false, v11, h3)))
  (ob (kbinI .eql v9 (.int .i64 (.ofNat 1))) fun v12 =>
  kif v12
   (ob (kbinI .neq v7 (.int .i64 (.negSucc 0))) fun v13 =>
   (some (false, v13, h3)))
   (ob (S 224 [v7, (.int .i64 (.ofNat 1)), (.int .i64 (.ofNat 255))] h3) fun r14 => kres r14 (fun v15 h16 =>
   (some (false, v15, h16))) (fun p17 h18 => (some (true, p17, h18))))))
theorem F341_ok {S : FS} {D : FD} (hS : SpecsOK Tryz.prog S) (hD : DynOK Tryz.prog D) : SpecOK Tryz.prog 341 (F341 S D) :=
  SpecOK.of (c := match Tryz.f341.body with | some c => c | none => .skip) (by kernel_rfl) hS hD ⟨Tryz.func341, rfl, by decide⟩
    (.seq .n (.seq .n (.seq (.seq .n (.one (.seq .n (.dup (.seq .n .n) (.seq .n (.dup (.seq .n .n) .n)))))) (.seq .n .n)))) 2 (fun args h => by kernel_rfl)
/-- slices.ContainsFunc[[]roundhouse/api.Edge,roundhouse/api.Edge] -/
noncomputable def F342 (S : FS) (D : FD) (args : List AV) (h : Heap) : Option (Bool × AV × Heap) :=
 kv2 args fun s_1 f_2 =>
 ob (S 385 [s_1, f_2] h) fun r3 => kres r3 (fun v4 h5 =>
 ob (kbinI .geq v4 (.int .i64 (.ofNat 0))) fun v8 =>
 (some (false, v8, h5))) (fun p6 h7 => (some (true, p6, h7)))
theorem F342_ok {S : FS} {D : FD} (hS : SpecsOK Tryz.prog S) (hD : DynOK Tryz.prog D) : SpecOK Tryz.prog 342 (F342 S D) :=
  SpecOK.of (c := match Tryz.f342.body with | some c => c | none => .skip) (by kernel_rfl) hS hD ⟨Tryz.func342, rfl, by decide⟩
    (.seq .n (.seq .n .n)) 2 (fun args h => by kernel_rfl)
/-- roundhouse/sha.first -/
noncomputable def F343 (S : FS) (D : FD) (args : List AV) (h : Heap) : Option (Bool × AV × Heap) :=
 kv0 args (Heap.pushK h (.cells [(.int .u32 (.ofNat 0)), (.int .u32 (.ofNat 0)), (.int .u32 (.ofNat 0)), (.int .u32 (.ofNat 0)), (.int .u32 (.ofNat 0)), (.int .u32 (.ofNat 0)), (.int .u32 (.ofNat 0)), (.int .u32 (.ofNat 0))] true 447) fun h1 =>
 ob (abuild Tryz.prog 447 [(0, (.int .u32 (.ofNat 1779033703))), (1, (.int .u32 (.ofNat 3144134277))), (2, (.int .u32 (.ofNat 1013904242))), (3, (.int .u32 (.ofNat 2773480762))), (4, (.int .u32 (.ofNat 1359893119))), (5, (.int .u32 (.ofNat 2600822924))), (6, (.int .u32 (.ofNat 528734635))), (7, (.int .u32 (.ofNat 1541459225)))]) fun v2 =>
 ob (kstore 8 (.ptr (Heap.next h) 0) v2 h1) fun h3 =>
 ob (kloadN 8 h3 (.ptr (Heap.next h) 0)) fun v4 => (some (false, v4, h3)))
theorem F343_ok {S : FS} {D : FD} (hS : SpecsOK Tryz.prog S) (hD : DynOK Tryz.prog D) : SpecOK Tryz.prog 343 (F343 S D) :=
  SpecOK.of (c := match Tryz.f343.body with | some c => c | none => .skip) (by kernel_rfl) hS hD ⟨Tryz.func343, rfl, by decide⟩
    (.seq .n (.seq .n .n)) 0 (fun args h => by kernel_rfl)
/-- (*roundhouse/sha.digest).block -/
noncomputable def F344 (S : FS) (D : FD) (args : List AV) (h : Heap) : Option (Bool × AV × Heap) :=
 kv2 args fun d_1 b_2 =>
 ob (S 386 [b_2] h) fun r3 => kres r3 (fun v4 h5 =>
 ob (S 387 [] h5) fun r8 => kres r8 (fun v9 h10 =>
 Heap.pushK h10 (.cells [(.int .u32 (.ofNat 0)), (.int .u32 (.ofNat 0)), (.int .u32 (.ofNat 0)), (.int .u32 (.ofNat 0)), (.int .u32 (.ofNat 0)), (.int .u32 (.ofNat 0)), (.int .u32 (.ofNat 0)), (.int .u32 (.ofNat 0)), (.int .u32 (.ofNat 0)), (.int .u32 (.ofNat 0)), (.int .u32 (.ofNat 0)), (.int .u32 (.ofNat 0)), (.int .u32 (.ofNat 0)), (.int .u32 (.ofNat 0)), (.int .u32 (.ofNat 0)), (.int .u32 (.ofNat 0)), (.int .u32 (.ofNat 0)), (.int .u32 (.ofNat 0)), (.int .u32 (.ofNat 0)), (.int .u32 (.ofNat 0)), (.int .u32 (.ofNat 0)), (.int .u32 (.ofNat 0)), (.int .u32 (.ofNat 0)), (.int .u32 (.ofNat 0)), (.int .u32 (.ofNat 0)), (.int .u32 (.ofNat 0)), (.int .u32 (.ofNat 0)), (.int .u32 (.ofNat 0)), (.int .u32 (.ofNat 0)), (.int .u32 (.ofNat 0)), (.int .u32 (.ofNat 0)), (.int .u32 (.ofNat 0)), (.int .u32 (.ofNat 0)), (.int .u32 (.ofNat 0)), (.int .u32 (.ofNat 0)), (.int .u32 (.ofNat 0)), (.int .u32 (.ofNat 0)), (.int .u32 (.ofNat 0)), (.int .u32 (.ofNat 0)), (.int .u32 (.ofNat 0)), (.int .u32 (.ofNat 0)), (.int .u32 (.ofNat 0)), (.int .u32 (.ofNat 0)), (.int .u32 (.ofNat 0)), (.int .u32 (.ofNat 0)), (.int .u32 (.ofNat 0)), (.int .u32 (.ofNat 0)), (.int .u32 (.ofNat 0)), (.int .u32 (.ofNat 0)), (.int .u32 (.ofNat 0)), (.int .u32 (.ofNat 0)), (.int .u32 (.ofNat 0)), (.int .u32 (.ofNat 0)), (.int .u32 (.ofNat 0)), (.int .u32 (.ofNat 0)), (.int .u32 (.ofNat 0)), (.int .u32 (.ofNat 0)), (.int .u32 (.ofNat 0)), (.int .u32 (.ofNat 0)), (.int .u32 (.ofNat 0)), (.int .u32 (.ofNat 0)), (.int .u32 (.ofNat 0)), (.int .u32 (.ofNat 0)), (.int .u32 (.ofNat 0))] true 483) fun h13 =>
 Heap.pushK h13 (.cells [(.int .u32 (.ofNat 0)), (.int .u32 (.ofNat 0)), (.int .u32 (.ofNat 0)), (.int .u32 (.ofNat 0)), (.int .u32 (.ofNat 0)), (.int .u32 (.ofNat 0)), (.int .u32 (.ofNat 0)), (.int .u32 (.ofNat 0)), (.int .u32 (.ofNat 0)), (.int .u32 (.ofNat 0)), (.int .u32 (.ofNat 0)), (.int .u32 (.ofNat 0)), (.int .u32 (.ofNat 0)), (.int .u32 (.ofNat 0)), (.int .u32 (.ofNat 0)), (.int .u32 (.ofNat 0)), (.int .u32 (.ofNat 0)), (.int .u32 (.ofNat 0)), (.int .u32 (.ofNat 0)), (.int .u32 (.ofNat 0)), (.int .u32 (.ofNat 0)), (.int .u32 (.ofNat 0)), (.int .u32 (.ofNat 0)), (.int .u32 (.ofNat 0)), (.int .u32 (.ofNat 0)), (.int .u32 (.ofNat 0)), (.int .u32 (.ofNat 0)), (.int .u32 (.ofNat 0)), (.int .u32 (.ofNat 0)), (.int .u32 (.ofNat 0)), (.int .u32 (.ofNat 0)), (.int .u32 (.ofNat 0)), (.int .u32 (.ofNat 0)), (.int .u32 (.ofNat 0)), (.int .u32 (.ofNat 0)), (.int .u32 (.ofNat 0)), (.int .u32 (.ofNat 0)), (.int .u32 (.ofNat 0)), (.int .u32 (.ofNat 0)), (.int .u32 (.ofNat 0)), (.int .u32 (.ofNat 0)), (.int .u32 (.ofNat 0)), (.int .u32 (.ofNat 0)), (.int .u32 (.ofNat 0)), (.int .u32 (.ofNat 0)), (.int .u32 (.ofNat 0)), (.int .u32 (.ofNat 0)), (.int .u32 (.ofNat 0)), (.int .u32 (.ofNat 0)), (.int .u32 (.ofNat 0)), (.int .u32 (.ofNat 0)), (.int .u32 (.ofNat 0)), (.int .u32 (.ofNat 0)), (.int .u32 (.ofNat 0)), (.int .u32 (.ofNat 0)), (.int .u32 (.ofNat 0)), (.int .u32 (.ofNat 0)), (.int .u32 (.ofNat 0)), (.int .u32 (.ofNat 0)), (.int .u32 (.ofNat 0)), (.int .u32 (.ofNat 0)), (.int .u32 (.ofNat 0)), (.int .u32 (.ofNat 0)), (.int .u32 (.ofNat 0))] true 483) fun h14 =>
 ob (kstore 64 (.ptr (Heap.next h10) 0) v4 h14) fun h15 =>
 ob (kstore 64 (.ptr (Heap.next h13) 0) v9 h15) fun h16 =>
 ob (knil d_1) fun v17 =>
 ob (kloadN 8 h16 v17) fun v18 =>
 Heap.pushK h16 (.cells [(.int .u32 (.ofNat 0)), (.int .u32 (.ofNat 0)), (.int .u32 (.ofNat 0)), (.int .u32 (.ofNat 0)), (.int .u32 (.ofNat 0)), (.int .u32 (.ofNat 0)), (.int .u32 (.ofNat 0)), (.int .u32 (.ofNat 0))] true 447) fun h19 =>
 ob (kstore 8 (.ptr (Heap.next h16) 0) v18 h19) fun h20 =>
 ob (iterD (fun vs21 ds22 h23 => kv5 vs21 fun d_24 w_25 k_26 v27 v28 =>
  ob (kbinI .lss v28 (.int .i64 (.ofNat 64))) fun v29 =>
  kif v29
   (ob (kiaA 8 1 v27 (.int .i64 (.ofNat 0))) fun v30 =>
   ob (kload h23 v30) fun v31 =>
   ob (kiaA 8 1 v27 (.int .i64 (.ofNat 4))) fun v32 =>
   ob (kload h23 v32) fun v33 =>
   ob (kiaA 8 1 v27 (.int .i64 (.ofNat 7))) fun v34 =>
   ob (kload h23 v34) fun v35 =>
   ob (kiaA 8 1 v27 (.int .i64 (.ofNat 5))) fun v36 =>
   ob (kload h23 v36) fun v37 =>
   ob (kbinI .and v33 v37) fun v38 =>
   ob (aun .xor v33) fun v39 =>
   ob (kiaA 8 1 v27 (.int .i64 (.ofNat 6))) fun v40 =>
   ob (kload h23 v40) fun v41 =>
   ob (kbinI .and v39 v41) fun v42 =>
   ob (kbinI .xor v38 v42) fun v43 =>
   ob (kiaA 64 1 k_26 v28) fun v44 =>
   ob (kload h23 v44) fun v45 =>
   ob (kiaA 64 1 w_25 v28) fun v46 =>
   ob (kload h23 v46) fun v47 =>
   ob (S 388 [v33, (.int .u64 (.ofNat 6))] h23) fun r48 => kres r48 (fun v49 h50 =>
   kre (kload h50 v46) v47 (kre (kload h50 v44) v45 (kre (kload h50 v40) v41 (kre (kload h50 v36) v37 (kre (kload h50 v34) v35 (ob (S 388 [v33, (.int .u64 (.ofNat 11))] h50) fun r53 => kres r53 (fun v54 h55 =>
   kre (kload h55 v46) v47 (kre (kload h55 v44) v45 (kre (kload h55 v40) v41 (kre (kload h55 v36) v37 (kre (kload h55 v34) v35 (ob (kbinI .xor v49 v54) fun v58 =>
   ob (S 388 [v33, (.int .u64 (.ofNat 25))] h55) fun r59 => kres r59 (fun v60 h61 =>
   kre (kload h61 v46) v47 (kre (kload h61 v44) v45 (kre (kload h61 v40) v41 (kre (kload h61 v36) v37 (kre (kload h61 v34) v35 (ob (kbinI .xor v58 v60) fun v64 =>
   ob (kbinI .add v35 v64) fun v65 =>
   ob (kbinI .add v65 v43) fun v66 =>
   ob (kbinI .add v66 v45) fun v67 =>
   ob (kbinI .add v67 v47) fun v68 =>
   ob (kiaA 8 1 v27 (.int .i64 (.ofNat 1))) fun v69 =>
   ob (kload h61 v69) fun v70 =>
   ob (kbinI .and v31 v70) fun v71 =>
   ob (kiaA 8 1 v27 (.int .i64 (.ofNat 2))) fun v72 =>
   ob (kload h61 v72) fun v73 =>
   ob (kbinI .and v31 v73) fun v74 =>
   ob (kbinI .xor v71 v74) fun v75 =>
   ob (kiaA 8 1 v27 (.int .i64 (.ofNat 1))) fun v76 =>
   ob (kload h61 v76) fun v77 =>
   ob (kiaA 8 1 v27 (.int .i64 (.ofNat 2))) fun v78 =>
   ob (kload h61 v78) fun v79 =>
   ob (kbinI .and v77 v79) fun v80 =>
   ob (kbinI .xor v75 v80) fun v81 =>
   ob (S 388 [v31, (.int .u64 (.ofNat 2))] h61) fun r82 => kres r82 (fun v83 h84 =>
   kre (kload h84 v78) v79 (kre (kload h84 v76) v77 (kre (kload h84 v72) v73 (kre (kload h84 v69) v70 (ob (S 388 [v31, (.int .u64 (.ofNat 13))] h84) fun r87 => kres r87 (fun v88 h89 =>
   kre (kload h89 v78) v79 (kre (kload h89 v76) v77 (kre (kload h89 v72) v73 (kre (kload h89 v69) v70 (ob (kbinI .xor v83 v88) fun v92 =>
   ob (S 388 [v31, (.int .u64 (.ofNat 22))] h89) fun r93 => kres r93 (fun v94 h95 =>
   kre (kload h95 v78) v79 (kre (kload h95 v76) v77 (kre (kload h95 v72) v73 (kre (kload h95 v69) v70 (ob (kbinI .xor v92 v94) fun v98 =>
   ob (kbinI .add v98 v81) fun v99 =>
   ob (asliceA Tryz.prog h95 447 v27 (some (.int .i64 (.ofNat 1))) none none) fun v100 =>
   ob (asliceA Tryz.prog h95 447 v27 none (some (.int .i64 (.ofNat 7))) none) fun v101 =>
   ob (acopy Tryz.prog h95 487 v100 v101) fun r102 =>
   ob (kiaA 8 1 v27 (.int .i64 (.ofNat 4))) fun v103 =>
   ob (kload r102.2 v103) fun v104 =>
   ob (kbinI .add v104 v68) fun v105 =>
   ob (kiaA 8 1 v27 (.int .i64 (.ofNat 4))) fun v106 =>
   ob (kstore 1 v106 v105 r102.2) fun h107 =>
   ob (kbinI .add v68 v99) fun v108 =>
   ob (kiaA 8 1 v27 (.int .i64 (.ofNat 0))) fun v109 =>
   ob (kstore 1 v109 v108 h107) fun h110 =>
   ob (kbinI .add v28 (.int .i64 (.ofNat 1))) fun v111 =>
   (some ⟨0, [d_24, w_25, k_26, v27, v111], ds22, h110⟩)))))) (fun p96 h97 => none)))))) (fun p90 h91 => none)))))) (fun p85 h86 => none))))))) (fun p62 h63 => none))))))) (fun p56 h57 => none))))))) (fun p51 h52 => none))
   ((some ⟨1, [d_24, v27], ds22, h23⟩))) rounds [d_1, (.ptr (Heap.next h10) 0), (.ptr (Heap.next h13) 0), (.ptr (Heap.next h16) 0), (.int .i64 (.ofNat 0))] [] h20) fun r112 => kcase (J.i r112) [kv2 (J.vs r112) fun d_113 v114 =>
  ob (iterD (fun vs115 ds116 h117 => kv3 vs115 fun d_118 v119 v120 =>
   ob (kbinI .lss v120 (.int .i64 (.ofNat 8))) fun v121 =>
   kif v121
    (ob (knil d_118) fun v122 =>
    ob (kiaA 8 1 v122 v120) fun v123 =>
    ob (kload h117 v123) fun v124 =>
    ob (kiaA 8 1 v119 v120) fun v125 =>
    ob (kload h117 v125) fun v126 =>
    ob (kbinI .add v124 v126) fun v127 =>
    ob (knil d_118) fun v128 =>
    ob (kiaA 8 1 v128 v120) fun v129 =>
    ob (kstore 1 v129 v127 h117) fun h130 =>
    ob (kbinI .add v120 (.int .i64 (.ofNat 1))) fun v131 =>
    (some ⟨0, [d_118, v119, v131], ds116, h130⟩))
    ((some ⟨1, [], ds116, h117⟩))) rounds [d_113, v114, (.int .i64 (.ofNat 0))] (J.ds r112) (J.h r112)) fun r132 => kcase (J.i r132) [kv0 (J.vs r132) ((dleave (fun h133 => (some (false, (.tuple []), h133))) (J.ds r132) (J.h r132)))],
 kv1 (J.vs r112) fun p134 => (kds (J.ds r112) (some (true, p134, (J.h r112))))]) (fun p11 h12 => (some (true, p11, h12)))) (fun p6 h7 => (some (true, p6, h7)))
theorem F344_ok {S : FS} {D : FD} (hS : SpecsOK Tryz.prog S) (hD : DynOK Tryz.prog D) : SpecOK Tryz.prog 344 (F344 S D) :=
  SpecOK.of (c := match Tryz.f344.body with | some c => c | none => .skip) (by kernel_rfl) hS hD ⟨Tryz.func344, rfl, by decide⟩
    (.seq .n (.seq .n (.seq (.seq .n (.one (.loop [0, 4, 5, 6, 19] [(.exit 0, [0, 6]), (.pan, [])] (.seq .n (.seq (.dup .n .n) (.seq (.one (.seq .n (.seq .n (.seq .n (.seq .n (.seq .n (.seq .n .n))))))) .n)))))) (.seq .n (.one (.loop [0, 6, 93] [(.exit 2, [])] (.seq .n (.seq (.dup .n .n) (.seq (.one (.seq .n .n)) .n))))))))) 2 (fun args h => by kernel_rfl)
/-- slices.ContainsFunc[[]roundhouse/rec.Job,roundhouse/rec.Job] -/
noncomputable def F345 (S : FS) (D : FD) (args : List AV) (h : Heap) : Option (Bool × AV × Heap) :=
 kv2 args fun s_1 f_2 =>
 ob (S 349 [s_1, f_2] h) fun r3 => kres r3 (fun v4 h5 =>
 ob (kbinI .geq v4 (.int .i64 (.ofNat 0))) fun v8 =>
 (some (false, v8, h5))) (fun p6 h7 => (some (true, p6, h7)))
theorem F345_ok {S : FS} {D : FD} (hS : SpecsOK Tryz.prog S) (hD : DynOK Tryz.prog D) : SpecOK Tryz.prog 345 (F345 S D) :=
  SpecOK.of (c := match Tryz.f345.body with | some c => c | none => .skip) (by kernel_rfl) hS hD ⟨Tryz.func345, rfl, by decide⟩
    (.seq .n (.seq .n .n)) 2 (fun args h => by kernel_rfl)
/-- (roundhouse/rec.State).newer$1 -/
noncomputable def F346 (S : FS) (D : FD) (args : List AV) (h : Heap) : Option (Bool × AV × Heap) :=
 kv2 args fun x_1 v2 =>
 knt x_1 (Heap.pushK h (.cells (AV.cells x_1) true 153) fun h3 =>
 ob (kfa 0 (.ptr (Heap.next h) 0)) fun v4 =>
 ob (kload h3 v4) fun v5 =>
 ob (kfa 1 v2) fun v6 =>
 ob (kload h3 v6) fun v7 =>
 ob (kbinI .eql v5 v7) fun v8 =>
 ob (kgv true v8 (kfa 1 (.ptr (Heap.next h) 0))) fun v9 =>
 ob (kgv true v8 (kload h3 v9)) fun v10 =>
 ob (kgv true v8 (kfa 2 v2)) fun v11 =>
 ob (kgv true v8 (kload h3 v11)) fun v12 =>
 ob (kgv true v8 (kbinI .geq v10 v12)) fun v13 =>
 ob (kpick v8 v13 (.bool false)) fun v14 =>
 (some (false, v14, h3)))
theorem F346_ok {S : FS} {D : FD} (hS : SpecsOK Tryz.prog S) (hD : DynOK Tryz.prog D) : SpecOK Tryz.prog 346 (F346 S D) :=
  SpecOK.of (c := match Tryz.f346.body with | some c => c | none => .skip) (by kernel_rfl) hS hD ⟨Tryz.func346, rfl, by decide⟩
    (.seq .n (.seq .n .n)) 2 (fun args h => by kernel_rfl)
/-- slices.IndexFunc[[]roundhouse/rec.Step,roundhouse/rec.Step] -/
noncomputable def F347 (S : FS) (D : FD) (args : List AV) (h : Heap) : Option (Bool × AV × Heap) :=
 kv2 args fun s_1 f_2 =>
 ob (klenL s_1) fun v3 =>
 ob (iterD (fun vs4 ds5 h6 => kv4 vs4 fun s_7 f_8 v9 v10 =>
  ob (kbinI .lss v10 v9) fun v11 =>
  kif v11
   (ob (kia 6 s_7 v10) fun v12 =>
   ob (kloadN 6 h6 v12) fun v13 =>
   ob (D f_8 [v13] h6) fun r14 => kres r14 (fun v15 h16 =>
   kif v15
    ((some ⟨2, [v10], ds5, h16⟩))
    (ob (kbinI .add v10 (.int .i64 (.ofNat 1))) fun v19 =>
    (some ⟨0, [s_7, f_8, v9, v19], ds5, h16⟩))) (fun p17 h18 => (some ⟨3, [p17], ds5, h18⟩)))
   ((some ⟨1, [], ds5, h6⟩))) rounds [s_1, f_2, v3, (.int .i64 (.ofNat 0))] [] h) fun r20 => kcase (J.i r20) [kv0 (J.vs r20) ((dleave (fun h21 => (some (false, (.int .i64 (.negSucc 0)), h21))) (J.ds r20) (J.h r20))),
 kv1 (J.vs r20) fun v22 =>
  (dleave (fun h23 => (some (false, v22, h23))) (J.ds r20) (J.h r20)),
 kv1 (J.vs r20) fun p24 => (kds (J.ds r20) (some (true, p24, (J.h r20))))]
theorem F347_ok {S : FS} {D : FD} (hS : SpecsOK Tryz.prog S) (hD : DynOK Tryz.prog D) : SpecOK Tryz.prog 347 (F347 S D) :=
  SpecOK.of (c := match Tryz.f347.body with | some c => c | none => .skip) (by kernel_rfl) hS hD ⟨Tryz.func347, rfl, by decide⟩
    (.seq .n (.seq (.seq .n (.one (.loop [0, 1, 7, 8] [(.exit 0, []), (.ret, [4]), (.pan, [])] (.seq .n (.seq (.dup .n .n) (.seq (.one (.seq .n (.seq .n (.dup (.seq .n .n) .n)))) .n)))))) (.seq .n .n))) 2 (fun args h => by kernel_rfl)
/-- (roundhouse/rec.State).step$1 -/
noncomputable def F348 (S : FS) (D : FD) (args : List AV) (h : Heap) : Option (Bool × AV × Heap) :=
 kv4 args fun x_1 v2 v3 v4 =>
 knt x_1 (Heap.pushK h (.cells (AV.cells x_1) true 156) fun h5 =>
 ob (kfa 0 (.ptr (Heap.next h) 0)) fun v6 =>
 ob (kload h5 v6) fun v7 =>
 ob (kload h5 v2) fun v8 =>
 ob (kbinI .eql v7 v8) fun v9 =>
 ob (kgv true v9 (kfa 1 (.ptr (Heap.next h) 0))) fun v10 =>
 ob (kgv true v9 (kload h5 v10)) fun v11 =>
 ob (kgv true v9 (kload h5 v3)) fun v12 =>
 ob (kgv true v9 (kbinI .eql v11 v12)) fun v13 =>
 ob (kpick v9 v13 (.bool false)) fun v14 =>
 ob (kgv true v14 (kfa 2 (.ptr (Heap.next h) 0))) fun v15 =>
 ob (kgv true v14 (kload h5 v15)) fun v16 =>
 ob (kgv true v14 (kload h5 v4)) fun v17 =>
 ob (kgv true v14 (kbinI .eql v16 v17)) fun v18 =>
 ob (kpick v14 v18 (.bool false)) fun v19 =>
 (some (false, v19, h5)))
theorem F348_ok {S : FS} {D : FD} (hS : SpecsOK Tryz.prog S) (hD : DynOK Tryz.prog D) : SpecOK Tryz.prog 348 (F348 S D) :=
  SpecOK.of (c := match Tryz.f348.body with | some c => c | none => .skip) (by kernel_rfl) hS hD ⟨Tryz.func348, rfl, by decide⟩
    (.seq .n (.seq .n .n)) 4 (fun args h => by kernel_rfl)
/-- slices.IndexFunc[[]roundhouse/rec.Job,roundhouse/rec.Job] -/
noncomputable def F349 (S : FS) (D : FD) (args : List AV) (h : Heap) : Option (Bool × AV × Heap) :=
 kv2 args fun s_1 f_2 =>
 ob (klenL s_1) fun v3 =>
 ob (iterD (fun vs4 ds5 h6 => kv4 vs4 fun s_7 f_8 v9 v10 =>
  ob (kbinI .lss v10 v9) fun v11 =>
  kif v11
   (ob (kia 3 s_7 v10) fun v12 =>
   ob (kloadN 3 h6 v12) fun v13 =>
   ob (D f_8 [v13] h6) fun r14 => kres r14 (fun v15 h16 =>
   kif v15
    ((some ⟨2, [v10], ds5, h16⟩))
    (ob (kbinI .add v10 (.int .i64 (.ofNat 1))) fun v19 =>
    (some ⟨0, [s_7, f_8, v9, v19], ds5, h16⟩))) (fun p17 h18 => (some ⟨3, [p17], ds5, h18⟩)))
   ((some ⟨1, [], ds5, h6⟩))) rounds [s_1, f_2, v3, (.int .i64 (.ofNat 0))] [] h) fun r20 => kcase (J.i r20) [kv0 (J.vs r20) ((dleave (fun h21 => (some (false, (.int .i64 (.negSucc 0)), h21))) (J.ds r20) (J.h r20))),
 kv1 (J.vs r20) fun v22 =>
  (dleave (fun h23 => (some (false, v22, h23))) (J.ds r20) (J.h r20)),
 kv1 (J.vs r20) fun p24 => (kds (J.ds r20) (some (true, p24, (J.h r20))))]
theorem F349_ok {S : FS} {D : FD} (hS : SpecsOK Tryz.prog S) (hD : DynOK Tryz.prog D) : SpecOK Tryz.prog 349 (F349 S D) :=
  SpecOK.of (c := match Tryz.f349.body with | some c => c | none => .skip) (by kernel_rfl) hS hD ⟨Tryz.func349, rfl, by decide⟩
    (.seq .n (.seq (.seq .n (.one (.loop [0, 1, 7, 8] [(.exit 0, []), (.ret, [4]), (.pan, [])] (.seq .n (.seq (.dup .n .n) (.seq (.one (.seq .n (.seq .n (.dup (.seq .n .n) .n)))) .n)))))) (.seq .n .n))) 2 (fun args h => by kernel_rfl)
/-- (roundhouse/rec.State).job$1 -/
noncomputable def F350 (S : FS) (D : FD) (args : List AV) (h : Heap) : Option (Bool × AV × Heap) :=
 kv3 args fun x_1 v2 v3 =>
 knt x_1 (Heap.pushK h (.cells (AV.cells x_1) true 153) fun h4 =>
 ob (kfa 0 (.ptr (Heap.next h) 0)) fun v5 =>
 ob (kload h4 v5) fun v6 =>
 ob (kload h4 v2) fun v7 =>
 ob (kbinI .eql v6 v7) fun v8 =>
 ob (kgv true v8 (kfa 1 (.ptr (Heap.next h) 0))) fun v9 =>
 ob (kgv true v8 (kload h4 v9)) fun v10 =>
 ob (kgv true v8 (kload h4 v3)) fun v11 =>
 ob (kgv true v8 (kbinI .eql v10 v11)) fun v12 =>
 ob (kpick v8 v12 (.bool false)) fun v13 =>
 (some (false, v13, h4)))
theorem F350_ok {S : FS} {D : FD} (hS : SpecsOK Tryz.prog S) (hD : DynOK Tryz.prog D) : SpecOK Tryz.prog 350 (F350 S D) :=
  SpecOK.of (c := match Tryz.f350.body with | some c => c | none => .skip) (by kernel_rfl) hS hD ⟨Tryz.func350, rfl, by decide⟩
    (.seq .n (.seq .n .n)) 3 (fun args h => by kernel_rfl)
/-- roundhouse/rec.Alive$1 -/
noncomputable def F351 (S : FS) (D : FD) (args : List AV) (h : Heap) : Option (Bool × AV × Heap) :=
 kv3 args fun x_1 v2 v3 =>
 knt x_1 (Heap.pushK h (.cells (AV.cells x_1) true 156) fun h4 =>
 ob (kfa 0 (.ptr (Heap.next h) 0)) fun v5 =>
 ob (kload h4 v5) fun v6 =>
 ob (kload h4 v2) fun v7 =>
 ob (kbinI .eql v6 v7) fun v8 =>
 ob (kgv true v8 (kfa 1 (.ptr (Heap.next h) 0))) fun v9 =>
 ob (kgv true v8 (kload h4 v9)) fun v10 =>
 ob (kgv true v8 (kload h4 v3)) fun v11 =>
 ob (kgv true v8 (kbinI .eql v10 v11)) fun v12 =>
 ob (kpick v8 v12 (.bool false)) fun v13 =>
 ob (kgv true v13 (kfa 3 (.ptr (Heap.next h) 0))) fun v14 =>
 ob (kgv true v13 (kload h4 v14)) fun v15 =>
 ob (kgv true v13 (kbinI .eql v15 (.int .i64 (.ofNat 0)))) fun v16 =>
 ob (kgv true v13 (some v16)) fun v17 =>
 ob (kgv false v17 (kfa 3 (.ptr (Heap.next h) 0))) fun v18 =>
 ob (kgv false v17 (kload h4 v18)) fun v19 =>
 ob (kgv false v17 (kbinI .eql v19 (.int .i64 (.ofNat 1)))) fun v20 =>
 ob (kgv true v13 (kpick v17 (.bool true) v20)) fun v21 =>
 ob (kpick v13 v21 (.bool false)) fun v22 =>
 (some (false, v22, h4)))
theorem F351_ok {S : FS} {D : FD} (hS : SpecsOK Tryz.prog S) (hD : DynOK Tryz.prog D) : SpecOK Tryz.prog 351 (F351 S D) :=
  SpecOK.of (c := match Tryz.f351.body with | some c => c | none => .skip) (by kernel_rfl) hS hD ⟨Tryz.func351, rfl, by decide⟩
    (.seq .n (.seq .n .n)) 3 (fun args h => by kernel_rfl)
/-- math/bits.Mul32 -/
noncomputable def F352 (S : FS) (D : FD) (args : List AV) (h : Heap) : Option (Bool × AV × Heap) :=
 kv2 args fun x_1 y_2 =>
 ob (kconvI .u64 x_1) fun v3 =>
 ob (kconvI .u64 y_2) fun v4 =>
 ob (kbinI .mul v3 v4) fun v5 =>
 ob (kbinI .shr v5 (.int .u64 (.ofNat 32))) fun v6 =>
 ob (kconvI .u32 v6) fun v7 =>
 ob (kconvI .u32 v5) fun v8 =>
 (some (false, (.tuple [v7, v8]), h))
theorem F352_ok {S : FS} {D : FD} (hS : SpecsOK Tryz.prog S) (hD : DynOK Tryz.prog D) : SpecOK Tryz.prog 352 (F352 S D) :=
  SpecOK.of (c := match Tryz.f352.body with | some c => c | none => .skip) (by kernel_rfl) hS hD ⟨Tryz.func352, rfl, by decide⟩
    (.seq .n (.seq .n (.seq .n .n))) 2 (fun args h => by kernel_rfl)
/-- math/bits.Mul64 -/
noncomputable def F353 (S : FS) (D : FD) (args : List AV) (h : Heap) : Option (Bool × AV × Heap) :=
 kv2 args fun x_1 y_2 =>
 ob (kbinI .and x_1 (.int .u64 (.ofNat 4294967295))) fun v3 =>
 ob (kbinI .shr x_1 (.int .u64 (.ofNat 32))) fun v4 =>
 ob (kbinI .and y_2 (.int .u64 (.ofNat 4294967295))) fun v5 =>
 ob (kbinI .shr y_2 (.int .u64 (.ofNat 32))) fun v6 =>
 ob (kbinI .mul v3 v5) fun v7 =>
 ob (kbinI .mul v4 v5) fun v8 =>
 ob (kbinI .shr v7 (.int .u64 (.ofNat 32))) fun v9 =>
 ob (kbinI .add v8 v9) fun v10 =>
 ob (kbinI .and v10 (.int .u64 (.ofNat 4294967295))) fun v11 =>
 ob (kbinI .shr v10 (.int .u64 (.ofNat 32))) fun v12 =>
 ob (kbinI .mul v3 v6) fun v13 =>
 ob (kbinI .add v11 v13) fun v14 =>
 ob (kbinI .mul v4 v6) fun v15 =>
 ob (kbinI .add v15 v12) fun v16 =>
 ob (kbinI .shr v14 (.int .u64 (.ofNat 32))) fun v17 =>
 ob (kbinI .add v16 v17) fun v18 =>
 ob (kbinI .mul x_1 y_2) fun v19 =>
 (some (false, (.tuple [v18, v19]), h))
theorem F353_ok {S : FS} {D : FD} (hS : SpecsOK Tryz.prog S) (hD : DynOK Tryz.prog D) : SpecOK Tryz.prog 353 (F353 S D) :=
  SpecOK.of (c := match Tryz.f353.body with | some c => c | none => .skip) (by kernel_rfl) hS hD ⟨Tryz.func353, rfl, by decide⟩
    (.seq .n (.seq .n (.seq .n (.seq .n (.seq .n (.seq .n (.seq .n (.seq .n (.seq .n (.seq .n (.seq .n (.seq .n .n)))))))))))) 2 (fun args h => by kernel_rfl)
/-- (*roundhouse/ctl.job).without$1 -/
noncomputable def F354 (S : FS) (D : FD) (args : List AV) (h : Heap) : Option (Bool × AV × Heap) :=
 kv2 args fun n_1 v2 =>
 ob (kload h v2) fun v3 =>
 ob (alookup Tryz.prog h 88 v3 n_1 true) fun v4 =>
 ob (aextract v4 0) fun v5 =>
 ob (aextract v4 1) fun v6 =>
 (some (false, v6, h))
theorem F354_ok {S : FS} {D : FD} (hS : SpecsOK Tryz.prog S) (hD : DynOK Tryz.prog D) : SpecOK Tryz.prog 354 (F354 S D) :=
  SpecOK.of (c := match Tryz.f354.body with | some c => c | none => .skip) (by kernel_rfl) hS hD ⟨Tryz.func354, rfl, by decide⟩
    (.seq .n (.seq .n (.seq .n .n))) 2 (fun args h => by kernel_rfl)
/-- roundhouse/agent.Pack -/
noncomputable def F355 (S : FS) (D : FD) (args : List AV) (h : Heap) : Option (Bool × AV × Heap) :=
 kv1 args fun o_1 =>
 knt o_1 (Heap.pushK h (.cells (AV.cells o_1) true 409) fun h2 =>
 ob (kloadN 5 h2 (.ptr (Heap.next h) 0)) fun v3 =>
 ob (S 360 [v3] h2) fun r4 => kres r4 (fun v5 h6 =>
 ob (aun .not v5) fun v9 =>
 kif v9
  ((some (false, (.str 0 0), h6)))
  (ob (kfa 0 (.ptr (Heap.next h) 0)) fun v10 =>
  ob (kload h6 v10) fun v11 =>
  ob (S 243 [v11] h6) fun r12 => kres r12 (fun v13 h14 =>
  ob (kfa 1 (.ptr (Heap.next h) 0)) fun v17 =>
  ob (kload h14 v17) fun v18 =>
  ob (kfa 2 (.ptr (Heap.next h) 0)) fun v19 =>
  ob (kload h14 v19) fun v20 =>
  ob (kfa 3 (.ptr (Heap.next h) 0)) fun v21 =>
  ob (kload h14 v21) fun v22 =>
  ob (kfa 4 (.ptr (Heap.next h) 0)) fun v23 =>
  ob (kload h14 v23) fun v24 =>
  ob (abuild Tryz.prog 488 [(0, v18), (1, v20), (2, v22), (3, v24)]) fun v25 =>
  ob (iterD (fun vs26 ds27 h28 => kv3 vs26 fun s_29 v30 v31 =>
   ob (kbinI .lss v31 (.int .i64 (.ofNat 4))) fun v32 =>
   kif v32
    (ob (kixA 4 false 1 v30 v31) fun v33 =>
    ob (S 241 [v33] h28) fun r34 => kres r34 (fun v35 h36 =>
    ob (kbinS .add s_29 v35) fun v39 =>
    ob (kbinI .add v31 (.int .i64 (.ofNat 1))) fun v40 =>
    (some ⟨0, [v39, v30, v40], ds27, h36⟩)) (fun p37 h38 => (some ⟨2, [p37], ds27, h38⟩)))
    ((some ⟨1, [s_29], ds27, h28⟩))) rounds [v13, v25, (.int .i64 (.ofNat 0))] [] h14) fun r41 => kcase (J.i r41) [kv1 (J.vs r41) fun s_42 =>
   (dleave (fun h43 => (some (false, s_42, h43))) (J.ds r41) (J.h r41)),
  kv1 (J.vs r41) fun p44 => (kds (J.ds r41) (some (true, p44, (J.h r41))))]) (fun p15 h16 => (some (true, p15, h16))))) (fun p7 h8 => (some (true, p7, h8))))
theorem F355_ok {S : FS} {D : FD} (hS : SpecsOK Tryz.prog S) (hD : DynOK Tryz.prog D) : SpecOK Tryz.prog 355 (F355 S D) :=
  SpecOK.of (c := match Tryz.f355.body with | some c => c | none => .skip) (by kernel_rfl) hS hD ⟨Tryz.func355, rfl, by decide⟩
    (.seq .n (.seq (.seq .n (.dup (.seq .n .n) .n)) (.seq .n (.seq (.seq .n (.one (.loop [3, 20, 21] [(.exit 0, [3]), (.pan, [])] (.seq .n (.seq (.dup .n .n) (.seq (.one (.seq .n .n)) .n)))))) (.seq .n .n))))) 1 (fun args h => by kernel_rfl)
/-- roundhouse/cred.Sign -/
noncomputable def F356 (S : FS) (D : FD) (args : List AV) (h : Heap) : Option (Bool × AV × Heap) :=
 kv2 args fun key_1 c_2 =>
 knt c_2 (Heap.pushK h (.cells (AV.cells c_2) true 413) fun h3 =>
 ob (kloadN 7 h3 (.ptr (Heap.next h) 0)) fun v4 =>
 ob (S 389 [v4] h3) fun r5 => kres r5 (fun v6 h7 =>
 ob (kbinS .eql v6 (.str 0 0)) fun v10 =>
 kif v10
  ((some (false, (.str 0 0), h7)))
  (ob (S 362 [key_1, v6] h7) fun r11 => kres r11 (fun v12 h13 =>
  ob (kbinS .add v6 v12) fun v16 =>
  (some (false, v16, h13))) (fun p14 h15 => (some (true, p14, h15))))) (fun p8 h9 => (some (true, p8, h9))))
theorem F356_ok {S : FS} {D : FD} (hS : SpecsOK Tryz.prog S) (hD : DynOK Tryz.prog D) : SpecOK Tryz.prog 356 (F356 S D) :=
  SpecOK.of (c := match Tryz.f356.body with | some c => c | none => .skip) (by kernel_rfl) hS hD ⟨Tryz.func356, rfl, by decide⟩
    (.seq .n (.seq .n (.seq (.seq .n (.dup (.seq .n .n) .n)) (.seq .n .n)))) 2 (fun args h => by kernel_rfl)
/-- roundhouse/tally.say[bool] -/
noncomputable def F358 (S : FS) (D : FD) (args : List AV) (h : Heap) : Option (Bool × AV × Heap) :=
 kv4 args fun m_1 node_2 x_3 may_4 =>
 knt x_3 (Heap.pushK h (.cells (AV.cells x_3) true 4) fun h5 =>
 ob (alookup Tryz.prog h5 180 m_1 node_2 true) fun v6 =>
 ob (aextract v6 0) fun v7 =>
 ob (aextract v6 1) fun v8 =>
 ob (aun .not v8) fun v9 =>
 kif v9
  ((some (false, (.int .i64 (.ofNat 1)), h5)))
  (ob (kbinO Tryz.prog .neq 184 true v7 AV.nilptr) fun v10 =>
  ob (kgv true v10 (some v7)) fun v11 =>
  ob (kgv true v10 (knil v11)) fun v12 =>
  ob (kgv true v10 (kload h5 v12)) fun v13 =>
  ob (kgv true v10 (kload h5 (.ptr (Heap.next h) 0))) fun v14 =>
  ob (kgv true v10 (kbinO Tryz.prog .eql 4 false v13 v14)) fun v15 =>
  ob (kpick v10 v15 (.bool false)) fun v16 =>
  kif v16
   ((some (false, (.int .i64 (.ofNat 0)), h5)))
   (ob (kbinO Tryz.prog .neq 184 true v7 AV.nilptr) fun v17 =>
   ob (kgv false v17 (some may_4)) fun v18 =>
   ob (kgv false v17 (aun .not v18)) fun v19 =>
   ob (kpick v17 (.bool true) v19) fun v20 =>
   kif v20
    ((some (false, (.int .i64 (.ofNat 14)), h5)))
    (ob (amapSet Tryz.prog h5 180 m_1 node_2 (.ptr (Heap.next h) 0)) fun h21 =>
    (some (false, (.int .i64 (.ofNat 0)), h21))))))
theorem F358_ok {S : FS} {D : FD} (hS : SpecsOK Tryz.prog S) (hD : DynOK Tryz.prog D) : SpecOK Tryz.prog 358 (F358 S D) :=
  SpecOK.of (c := match Tryz.f358.body with | some c => c | none => .skip) (by kernel_rfl) hS hD ⟨Tryz.func358, rfl, by decide⟩
    (.seq .n (.seq .n (.seq (.one (.seq .n (.dup (.seq .n .n) (.seq .n (.dup (.seq .n .n) (.seq .n (.dup (.seq .n .n) .n))))))) (.seq .n (.seq .n .n))))) 4 (fun args h => by kernel_rfl)
end Go.Rh.Tryz
