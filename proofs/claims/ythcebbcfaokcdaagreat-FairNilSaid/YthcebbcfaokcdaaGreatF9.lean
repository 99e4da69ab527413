/- Printed by wip/tools/gen.py: functions of the program as plain functions over abstract values, each with its proof. -/
import Derived.Test.YthcebbcfaokcdaaGreatProg
import Derived.Test.YthcebbcfaokcdaaGreatRh3
set_option maxRecDepth 1000000
set_option linter.unusedVariables false
namespace Go.Rh.Tryz
open Go.Proofs
/-- roundhouse/acct.Add -/
noncomputable def F304 (S : FS) (D : FD) (args : List AV) (h : Heap) : Option (Bool × AV × Heap) :=
 kv2 args fun a_1 b_2 =>
 ob (amaxs true [a_1, (.int .i64 (.ofNat 0))]) fun v3 =>
 ob (amaxs true [b_2, (.int .i64 (.ofNat 0))]) fun v4 =>
 ob (kbinI .add v3 v4) fun v5 =>
 ob (kbinI .geq v5 v3) fun v6 =>
 kif v6
  ((some (false, v5, h)))
  ((some (false, (.int .i64 (.ofNat 9223372036854775807)), h)))
theorem F304_ok {S : FS} {D : FD} (hS : SpecsOK Tryz.prog S) (hD : DynOK Tryz.prog D) : SpecOK Tryz.prog 304 (F304 S D) :=
  SpecOK.of (c := match Tryz.f304.body with | some c => c | none => .skip) (by kernel_rfl) hS hD ⟨Tryz.func304, rfl, by decide⟩
    (.seq .n (.seq .n (.seq (.seq .n (.seq .n (.dup (.seq .n .n) .n))) (.seq .n .n)))) 2 (fun args h => by kernel_rfl)
/-- slices.IndexFunc[[]roundhouse/rec.Step,roundhouse/rec.Step] -/
noncomputable def F305 (S : FS) (D : FD) (args : List AV) (h : Heap) : Option (Bool × AV × Heap) :=
 kv2 args fun s_1 f_2 =>
 ob (klenL s_1) fun v3 =>
 ob (iterD (fun vs4 ds5 h6 => kv4 vs4 fun s_7 f_8 v9 v10 =>
  ob (kbinI .lss v10 v9) fun v11 =>
  kif v11
   (ob (kia 6 s_7 v10) fun v12 =>
   ob (kloadN 6 h6 v12) fun v13 =>
   ob (D f_8 [v13] h6) fun r14 => kres r14 (fun v15 h16 =>
   kif v15
    ((some ⟨2, [v10], ds5, h16⟩))
    (ob (kbinI .add v10 (.int .i64 (.ofNat 1))) fun v19 =>
    (some ⟨0, [s_7, f_8, v9, v19], ds5, h16⟩))) (fun p17 h18 => (some ⟨3, [p17], ds5, h18⟩)))
   ((some ⟨1, [], ds5, h6⟩))) rounds [s_1, f_2, v3, (.int .i64 (.ofNat 0))] [] h) fun r20 => kcase (J.i r20) [kv0 (J.vs r20) ((dleave (fun h21 => (some (false, (.int .i64 (.negSucc 0)), h21))) (J.ds r20) (J.h r20))),
 kv1 (J.vs r20) fun v22 =>
  (dleave (fun h23 => (some (false, v22, h23))) (J.ds r20) (J.h r20)),
 kv1 (J.vs r20) fun p24 => (kds (J.ds r20) (some (true, p24, (J.h r20))))]
theorem F305_ok {S : FS} {D : FD} (hS : SpecsOK Tryz.prog S) (hD : DynOK Tryz.prog D) : SpecOK Tryz.prog 305 (F305 S D) :=
  SpecOK.of (c := match Tryz.f305.body with | some c => c | none => .skip) (by kernel_rfl) hS hD ⟨Tryz.func305, rfl, by decide⟩
    (.seq .n (.seq (.seq .n (.one (.loop [0, 1, 7, 8] [(.exit 0, []), (.ret, [4]), (.pan, [])] (.seq .n (.seq (.dup .n .n) (.seq (.one (.seq .n (.seq .n (.dup (.seq .n .n) .n)))) .n)))))) (.seq .n .n))) 2 (fun args h => by kernel_rfl)
/-- (roundhouse/rec.State).step$1 -/
noncomputable def F306 (S : FS) (D : FD) (args : List AV) (h : Heap) : Option (Bool × AV × Heap) :=
 kv4 args fun x_1 v2 v3 v4 =>
 knt x_1 (Heap.pushK h (.cells (AV.cells x_1) true 192) fun h5 =>
 ob (kfa 0 (.ptr (Heap.next h) 0)) fun v6 =>
 ob (kload h5 v6) fun v7 =>
 ob (kload h5 v2) fun v8 =>
 ob (kbinI .eql v7 v8) fun v9 =>
 ob (kgv true v9 (kfa 1 (.ptr (Heap.next h) 0))) fun v10 =>
 ob (kgv true v9 (kload h5 v10)) fun v11 =>
 ob (kgv true v9 (kload h5 v3)) fun v12 =>
 ob (kgv true v9 (kbinI .eql v11 v12)) fun v13 =>
 ob (kpick v9 v13 (.bool false)) fun v14 =>
 ob (kgv true v14 (kfa 2 (.ptr (Heap.next h) 0))) fun v15 =>
 ob (kgv true v14 (kload h5 v15)) fun v16 =>
 ob (kgv true v14 (kload h5 v4)) fun v17 =>
 ob (kgv true v14 (kbinI .eql v16 v17)) fun v18 =>
 ob (kpick v14 v18 (.bool false)) fun v19 =>
 (some (false, v19, h5)))
theorem F306_ok {S : FS} {D : FD} (hS : SpecsOK Tryz.prog S) (hD : DynOK Tryz.prog D) : SpecOK Tryz.prog 306 (F306 S D) :=
  SpecOK.of (c := match Tryz.f306.body with | some c => c | none => .skip) (by kernel_rfl) hS hD ⟨Tryz.func306, rfl, by decide⟩
    (.seq .n (.seq .n .n)) 4 (fun args h => by kernel_rfl)
/-- slices.Clone[[]roundhouse/rec.Job,roundhouse/rec.Job] -/
noncomputable def F307 (S : FS) (D : FD) (args : List AV) (h : Heap) : Option (Bool × AV × Heap) :=
 kv1 args fun s_1 =>
 ob (kbinO Tryz.prog .eql 73 true s_1 AV.nilslice) fun v2 =>
 kif v2
  ((some (false, AV.nilslice, h)))
  (ob (abuildSlice Tryz.prog 73 0 []) fun r3 => Heap.pushK h (.cells r3.1 true r3.2.2) fun h4 =>
  ob (aappend Tryz.prog h4 73 73 (.slice (Heap.next h) 0 0 0 r3.2.1) s_1) fun r5 =>
  (some (false, r5.1, r5.2)))
theorem F307_ok {S : FS} {D : FD} (hS : SpecsOK Tryz.prog S) (hD : DynOK Tryz.prog D) : SpecOK Tryz.prog 307 (F307 S D) :=
  SpecOK.of (c := match Tryz.f307.body with | some c => c | none => .skip) (by kernel_rfl) hS hD ⟨Tryz.func307, rfl, by decide⟩
    (.seq .n (.seq (.seq .n (.dup (.seq .n .n) .n)) (.seq .n .n))) 1 (fun args h => by kernel_rfl)
/-- roundhouse/rec.prolog -/
noncomputable def F308 (S : FS) (D : FD) (args : List AV) (h : Heap) : Option (Bool × AV × Heap) :=
 kv2 args fun s_1 r_2 =>
 knt r_2 (Heap.pushK h (.cells (AV.cells r_2) true 120) fun h3 =>
 ob (knil s_1) fun v4 =>
 ob (kloadN 3 h3 v4) fun v5 =>
 ob (kloadN 6 h3 (.ptr (Heap.next h) 0)) fun v6 =>
 ob (S 340 [v5, v6] h3) fun r7 => kres r7 (fun v8 h9 =>
 kif v8
  ((some (false, (.int .i64 (.ofNat 14)), h9)))
  (ob (knil s_1) fun v12 =>
  ob (kfa 2 v12) fun v13 =>
  ob (kload h9 v13) fun v14 =>
  kif v14
   ((some (false, (.int .i64 (.ofNat 16)), h9)))
   (ob (kfa 1 (.ptr (Heap.next h) 0)) fun v15 =>
   ob (kload h9 v15) fun v16 =>
   ob (kfa 2 (.ptr (Heap.next h) 0)) fun v17 =>
   ob (kload h9 v17) fun v18 =>
   ob (abuild Tryz.prog 328 [(0, v16), (1, v18), (2, (.int .i64 (.ofNat 0)))]) fun v19 =>
   Heap.pushK h9 (.cells [(.int .i64 (.ofNat 0)), (.int .i64 (.ofNat 0)), (.int .i64 (.ofNat 0))] true 328) fun h20 =>
   ob (kstore 3 (.ptr (Heap.next h9) 0) v19 h20) fun h21 =>
   ob (kfa 4 (.ptr (Heap.next h) 0)) fun v22 =>
   ob (kload h21 v22) fun v23 =>
   ob (kbinI .neq v23 (.int .i64 (.ofNat 0))) fun v24 =>
   ob (kif v24
    (ob (kfa 2 (.ptr (Heap.next h9) 0)) fun v26 =>
    ob (kstore 1 v26 (.int .i64 (.ofNat 1)) h21) fun h27 =>
    ob (knil s_1) fun v28 =>
    ob (kfa 2 v28) fun v29 =>
    ob (kstore 1 v29 (.bool true) h27) fun h30 =>
    (some ⟨0, [s_1, (.ptr (Heap.next h9) 0)], [], h30⟩))
    ((some ⟨0, [s_1, (.ptr (Heap.next h9) 0)], [], h21⟩))) fun r25 => kcase (J.i r25) [kv2 (J.vs r25) fun s_31 x_32 =>
    ob (knil s_31) fun v33 =>
    ob (kfa 0 v33) fun v34 =>
    ob (kload (J.h r25) v34) fun v35 =>
    ob (kloadN 3 (J.h r25) x_32) fun v36 =>
    kfree (J.h r25) (ob (abuildSlice Tryz.prog 73 1 [(0, v36)]) fun r37 => Heap.pushK (J.h r25) (.cells r37.1 true r37.2.2) fun h38 =>
    ob (aappend Tryz.prog h38 73 73 v35 (.slice (Heap.next (J.h r25)) 0 1 1 r37.2.1)) fun r39 =>
    ob (knil s_31) fun v40 =>
    ob (kfa 0 v40) fun v41 =>
    ob (kstore 1 v41 r39.1 r39.2) fun h42 =>
    (dleave (fun h43 => (some (false, (.int .i64 (.ofNat 0)), h43))) (J.ds r25) h42))]))) (fun p10 h11 => (some (true, p10, h11))))
theorem F308_ok {S : FS} {D : FD} (hS : SpecsOK Tryz.prog S) (hD : DynOK Tryz.prog D) : SpecOK Tryz.prog 308 (F308 S D) :=
  SpecOK.of (c := match Tryz.f308.body with | some c => c | none => .skip) (by kernel_rfl) hS hD ⟨Tryz.func308, rfl, by decide⟩
    (.seq .n (.seq (.one (.seq .n (.dup (.seq .n .n) (.seq .n (.dup (.seq .n .n) .n))))) (.seq .n (.seq (.seq .n (.join [(.norm, [0, 5])] (.dup .n .n))) (.seq .n (.seq .n .n)))))) 2 (fun args h => by kernel_rfl)
/-- roundhouse/rec.begins -/
noncomputable def F309 (S : FS) (D : FD) (args : List AV) (h : Heap) : Option (Bool × AV × Heap) :=
 kv1 args fun phase_1 =>
 knt phase_1 (Heap.pushK h (.cells (AV.cells phase_1) true 3) fun h2 =>
 Heap.pushK h2 (.cells [AV.nilfunc] true 363) fun h3 =>
 ob (abuild Tryz.prog 363 [(0, (.func 341 [(.ptr (Heap.next h) 0)]))]) fun v4 =>
 ob (kstore 1 (.ptr (Heap.next h2) 0) v4 h3) fun h5 =>
 ob (kloadN 1 h5 (.ptr (Heap.next h2) 0)) fun v6 => (some (false, v6, h5)))
theorem F309_ok {S : FS} {D : FD} (hS : SpecsOK Tryz.prog S) (hD : DynOK Tryz.prog D) : SpecOK Tryz.prog 309 (F309 S D) :=
  SpecOK.of (c := match Tryz.f309.body with | some c => c | none => .skip) (by kernel_rfl) hS hD ⟨Tryz.func309, rfl, by decide⟩
    (.seq .n (.seq .n .n)) 1 (fun args h => by kernel_rfl)
/-- roundhouse/rec.turns -/
noncomputable def F310 (S : FS) (D : FD) (args : List AV) (h : Heap) : Option (Bool × AV × Heap) :=
 kv2 args fun from_1 to_2 =>
 knt from_1 (Heap.pushK h (.cells (AV.cells from_1) true 3) fun h3 =>
 knt to_2 (Heap.pushK h3 (.cells (AV.cells to_2) true 3) fun h4 =>
 Heap.pushK h4 (.cells [AV.nilfunc] true 363) fun h5 =>
 ob (abuild Tryz.prog 363 [(0, (.func 344 [(.ptr (Heap.next h) 0), (.ptr (Heap.next h3) 0)]))]) fun v6 =>
 ob (kstore 1 (.ptr (Heap.next h4) 0) v6 h5) fun h7 =>
 ob (kloadN 1 h7 (.ptr (Heap.next h4) 0)) fun v8 => (some (false, v8, h7))))
theorem F310_ok {S : FS} {D : FD} (hS : SpecsOK Tryz.prog S) (hD : DynOK Tryz.prog D) : SpecOK Tryz.prog 310 (F310 S D) :=
  SpecOK.of (c := match Tryz.f310.body with | some c => c | none => .skip) (by kernel_rfl) hS hD ⟨Tryz.func310, rfl, by decide⟩
    (.seq .n (.seq .n .n)) 2 (fun args h => by kernel_rfl)
/-- roundhouse/rec.epilog -/
noncomputable def F311 (S : FS) (D : FD) (args : List AV) (h : Heap) : Option (Bool × AV × Heap) :=
 kv2 args fun s_1 r_2 =>
 knt r_2 (Heap.pushK h (.cells (AV.cells r_2) true 120) fun h3 =>
 ob (knil s_1) fun v4 =>
 ob (kloadN 3 h3 v4) fun v5 =>
 ob (kfa 1 (.ptr (Heap.next h) 0)) fun v6 =>
 ob (kload h3 v6) fun v7 =>
 ob (kfa 2 (.ptr (Heap.next h) 0)) fun v8 =>
 ob (kload h3 v8) fun v9 =>
 ob (S 328 [v5, v7, v9] h3) fun r10 => kres r10 (fun v11 h12 =>
 ob (kbinI .lss v11 (.int .i64 (.ofNat 0))) fun v15 =>
 ob (kgv false v15 (some s_1)) fun v16 =>
 ob (kgv false v15 (knil v16)) fun v17 =>
 ob (kgv false v15 (kfa 0 v17)) fun v18 =>
 ob (kgv false v15 (kload h12 v18)) fun v19 =>
 ob (kgv false v15 (some v11)) fun v20 =>
 ob (kgv false v15 (kia 3 v19 v20)) fun v21 =>
 ob (kgv false v15 (kfa 2 v21)) fun v22 =>
 ob (kgv false v15 (kload h12 v22)) fun v23 =>
 ob (kgv false v15 (kbinI .eql v23 (.int .i64 (.ofNat 2)))) fun v24 =>
 ob (kpick v15 (.bool true) v24) fun v25 =>
 ob (kgv false v25 (some s_1)) fun v26 =>
 ob (kgv false v25 (knil v26)) fun v27 =>
 ob (kgv false v25 (kloadN 3 h12 v27)) fun v28 =>
 ob (kgv false v25 (kfa 1 (.ptr (Heap.next h) 0))) fun v29 =>
 ob (kgv false v25 (kload h12 v29)) fun v30 =>
 ob (kgv false v25 (kfa 2 (.ptr (Heap.next h) 0))) fun v31 =>
 ob (kgv false v25 (kload h12 v31)) fun v32 =>
 ob (kgc false v25 h12 (S 300 [v28, v30, v32] h12)) fun r33 => kres r33 (fun v34 h35 =>
 ob (kpick v25 (.bool true) v34) fun v38 =>
 kif v38
  ((some (false, (.int .i64 (.ofNat 14)), h35)))
  (ob (knil s_1) fun v39 =>
  ob (kfa 0 v39) fun v40 =>
  ob (kload h35 v40) fun v41 =>
  ob (kia 3 v41 v11) fun v42 =>
  ob (kfa 2 v42) fun v43 =>
  ob (kstore 1 v43 (.int .i64 (.ofNat 2)) h35) fun h44 =>
  ob (knil s_1) fun v45 =>
  ob (kfa 2 v45) fun v46 =>
  ob (kload h44 v46) fun v47 =>
  ob (kgv false v47 (kfa 4 (.ptr (Heap.next h) 0))) fun v48 =>
  ob (kgv false v47 (kload h44 v48)) fun v49 =>
  ob (kgv false v47 (kbinI .neq v49 (.int .i64 (.ofNat 0)))) fun v50 =>
  ob (kpick v47 (.bool true) v50) fun v51 =>
  ob (knil s_1) fun v52 =>
  ob (kfa 2 v52) fun v53 =>
  ob (kstore 1 v53 v51 h44) fun h54 =>
  (some (false, (.int .i64 (.ofNat 0)), h54)))) (fun p36 h37 => (some (true, p36, h37)))) (fun p13 h14 => (some (true, p13, h14))))
theorem F311_ok {S : FS} {D : FD} (hS : SpecsOK Tryz.prog S) (hD : DynOK Tryz.prog D) : SpecOK Tryz.prog 311 (F311 S D) :=
  SpecOK.of (c := match Tryz.f311.body with | some c => c | none => .skip) (by kernel_rfl) hS hD ⟨Tryz.func311, rfl, by decide⟩
    (.seq .n (.seq .n (.seq (.seq .n (.dup (.seq .n .n) .n)) (.seq .n (.seq .n (.seq .n .n)))))) 2 (fun args h => by kernel_rfl)
/-- roundhouse/rec.void -/
noncomputable def F312 (S : FS) (D : FD) (args : List AV) (h : Heap) : Option (Bool × AV × Heap) :=
 kv2 args fun s_1 r_2 =>
 knt r_2 (Heap.pushK h (.cells (AV.cells r_2) true 120) fun h3 =>
 ob (knil s_1) fun v4 =>
 ob (kloadN 3 h3 v4) fun v5 =>
 ob (kloadN 6 h3 (.ptr (Heap.next h) 0)) fun v6 =>
 ob (S 340 [v5, v6] h3) fun r7 => kres r7 (fun v8 h9 =>
 kif v8
  ((some (false, (.int .i64 (.ofNat 14)), h9)))
  (ob (knil s_1) fun v12 =>
  ob (kfa 0 v12) fun v13 =>
  ob (kload h9 v13) fun v14 =>
  ob (kfa 1 (.ptr (Heap.next h) 0)) fun v15 =>
  ob (kload h9 v15) fun v16 =>
  ob (kfa 2 (.ptr (Heap.next h) 0)) fun v17 =>
  ob (kload h9 v17) fun v18 =>
  ob (abuild Tryz.prog 328 [(0, v16), (1, v18), (2, (.int .i64 (.ofNat 2)))]) fun v19 =>
  kfree h9 (ob (abuildSlice Tryz.prog 73 1 [(0, v19)]) fun r20 => Heap.pushK h9 (.cells r20.1 true r20.2.2) fun h21 =>
  ob (aappend Tryz.prog h21 73 73 v14 (.slice (Heap.next h9) 0 1 1 r20.2.1)) fun r22 =>
  ob (knil s_1) fun v23 =>
  ob (kfa 0 v23) fun v24 =>
  ob (kstore 1 v24 r22.1 r22.2) fun h25 =>
  (some (false, (.int .i64 (.ofNat 0)), h25))))) (fun p10 h11 => (some (true, p10, h11))))
theorem F312_ok {S : FS} {D : FD} (hS : SpecsOK Tryz.prog S) (hD : DynOK Tryz.prog D) : SpecOK Tryz.prog 312 (F312 S D) :=
  SpecOK.of (c := match Tryz.f312.body with | some c => c | none => .skip) (by kernel_rfl) hS hD ⟨Tryz.func312, rfl, by decide⟩
    (.seq .n (.seq (.seq .n (.dup (.seq .n .n) .n)) (.seq .n (.seq .n .n)))) 2 (fun args h => by kernel_rfl)
/-- roundhouse/pool.may -/
noncomputable def F313 (S : FS) (D : FD) (args : List AV) (h : Heap) : Option (Bool × AV × Heap) :=
 kv1 args fun owner_1 =>
 ob (kbinI .geq owner_1 (.int .i64 (.ofNat 0))) fun v2 =>
 ob (kgv true v2 (some owner_1)) fun v3 =>
 ob (kgv true v2 (kbinI .leq v3 (.int .i64 (.ofNat 1099511627776)))) fun v4 =>
 ob (kpick v2 v4 (.bool false)) fun v5 =>
 (some (false, v5, h))
theorem F313_ok {S : FS} {D : FD} (hS : SpecsOK Tryz.prog S) (hD : DynOK Tryz.prog D) : SpecOK Tryz.prog 313 (F313 S D) :=
  SpecOK.of (c := match Tryz.f313.body with | some c => c | none => .skip) (by kernel_rfl) hS hD ⟨Tryz.func313, rfl, by decide⟩
    (.seq .n (.seq .n .n)) 1 (fun args h => by kernel_rfl)
/-- (roundhouse/mask.Mask).Minus$1 -/
noncomputable def F314 (S : FS) (D : FD) (args : List AV) (h : Heap) : Option (Bool × AV × Heap) :=
 kv2 args fun a_1 b_2 =>
 ob (kbinI .andNot a_1 b_2) fun v3 =>
 (some (false, v3, h))
theorem F314_ok {S : FS} {D : FD} (hS : SpecsOK Tryz.prog S) (hD : DynOK Tryz.prog D) : SpecOK Tryz.prog 314 (F314 S D) :=
  SpecOK.of (c := match Tryz.f314.body with | some c => c | none => .skip) (by kernel_rfl) hS hD ⟨Tryz.func314, rfl, by decide⟩
    (.seq .n (.seq .n .n)) 2 (fun args h => by kernel_rfl)
/-- roundhouse/cores.All -/
noncomputable def F315 (S : FS) (D : FD) (args : List AV) (h : Heap) : Option (Bool × AV × Heap) :=
 kv1 args fun l_1 =>
 knt l_1 (Heap.pushK h (.cells (AV.cells l_1) true 54) fun h2 =>
 Heap.pushK h2 (.cells [(.int .u64 (.ofNat 0)), (.int .u64 (.ofNat 0)), (.int .u64 (.ofNat 0)), (.int .u64 (.ofNat 0))] true 287) fun h3 =>
 ob (kloadN 2 h3 (.ptr (Heap.next h) 0)) fun v4 =>
 ob (S 346 [v4] h3) fun r5 => kres r5 (fun v6 h7 =>
 ob (S 345 [v6] h7) fun r10 => kres r10 (fun v11 h12 =>
 ob (aextract v11 0) fun v15 =>
 ob (aextract v11 1) fun v16 =>
 Heap.pushK h12 (.cells [(.int .u64 (.ofNat 0)), (.int .u64 (.ofNat 0)), (.int .u64 (.ofNat 0)), (.int .u64 (.ofNat 0))] true 287) fun h17 =>
 ob (kstore 4 (.ptr (Heap.next h12) 0) v15 h17) fun h18 =>
 ob (kloadN 4 h18 (.ptr (Heap.next h12) 0)) fun v19 =>
 ob (kstore 4 (.ptr (Heap.next h2) 0) v19 h18) fun h20 =>
 ob (kloadN 4 h20 (.ptr (Heap.next h2) 0)) fun v21 => (some (false, v21, h20))) (fun p13 h14 => (some (true, p13, h14)))) (fun p8 h9 => (some (true, p8, h9))))
theorem F315_ok {S : FS} {D : FD} (hS : SpecsOK Tryz.prog S) (hD : DynOK Tryz.prog D) : SpecOK Tryz.prog 315 (F315 S D) :=
  SpecOK.of (c := match Tryz.f315.body with | some c => c | none => .skip) (by kernel_rfl) hS hD ⟨Tryz.func315, rfl, by decide⟩
    (.seq .n (.seq .n (.seq .n .n))) 1 (fun args h => by kernel_rfl)
/-- slices.Max[[]int,int] -/
noncomputable def F316 (S : FS) (D : FD) (args : List AV) (h : Heap) : Option (Bool × AV × Heap) :=
 kv1 args fun x_1 =>
 ob (klenL x_1) fun v2 =>
 ob (kbinI .lss v2 (.int .i64 (.ofNat 1))) fun v3 =>
 kif v3
  (kpan (.iface 9 (.str 22 43569427165811886929444707632401303150185065025727603)) fun p4 => (some (true, p4, h)))
  (ob (kia 1 x_1 (.int .i64 (.ofNat 0))) fun v5 =>
  ob (kload h v5) fun v6 =>
  ob (iterD (fun vs7 ds8 h9 => kv3 vs7 fun x_10 m_11 i_12 =>
   ob (klenL x_10) fun v13 =>
   ob (kbinI .lss i_12 v13) fun v14 =>
   kif v14
    (ob (kia 1 x_10 i_12) fun v15 =>
    ob (kload h9 v15) fun v16 =>
    ob (amaxs true [m_11, v16]) fun v17 =>
    ob (kbinI .add i_12 (.int .i64 (.ofNat 1))) fun v18 =>
    (some ⟨0, [x_10, v17, v18], ds8, h9⟩))
    ((some ⟨1, [m_11], ds8, h9⟩))) rounds [x_1, v6, (.int .i64 (.ofNat 1))] [] h) fun r19 => kcase (J.i r19) [kv1 (J.vs r19) fun m_20 =>
   (dleave (fun h21 => (some (false, m_20, h21))) (J.ds r19) (J.h r19))])
theorem F316_ok {S : FS} {D : FD} (hS : SpecsOK Tryz.prog S) (hD : DynOK Tryz.prog D) : SpecOK Tryz.prog 316 (F316 S D) :=
  SpecOK.of (c := match Tryz.f316.body with | some c => c | none => .skip) (by kernel_rfl) hS hD ⟨Tryz.func316, rfl, by decide⟩
    (.seq .n (.seq (.seq .n (.dup .n .n)) (.seq .n (.seq (.seq .n (.one (.loop [0, 3, 4] [(.exit 0, [3])] (.seq (.seq .n (.dup .n .n)) (.seq (.one .n) .n))))) (.seq .n .n))))) 1 (fun args h => by kernel_rfl)
/-- roundhouse/dag.with$1 -/
noncomputable def F317 (S : FS) (D : FD) (args : List AV) (h : Heap) : Option (Bool × AV × Heap) :=
 kv1 args fun c_1 =>
 ob (S 130 [c_1, (.int .i64 (.negSucc 0)), (.int .i64 (.ofNat 256))] h) fun r2 => kres r2 (fun v3 h4 =>
 ob (aun .not v3) fun v7 =>
 (some (false, v7, h4))) (fun p5 h6 => (some (true, p5, h6)))
theorem F317_ok {S : FS} {D : FD} (hS : SpecsOK Tryz.prog S) (hD : DynOK Tryz.prog D) : SpecOK Tryz.prog 317 (F317 S D) :=
  SpecOK.of (c := match Tryz.f317.body with | some c => c | none => .skip) (by kernel_rfl) hS hD ⟨Tryz.func317, rfl, by decide⟩
    (.seq .n (.seq .n .n)) 1 (fun args h => by kernel_rfl)
/-- slices.IndexFunc[[]roundhouse/api.Edge,roundhouse/api.Edge] -/
noncomputable def F318 (S : FS) (D : FD) (args : List AV) (h : Heap) : Option (Bool × AV × Heap) :=
 kv2 args fun s_1 f_2 =>
 ob (klenL s_1) fun v3 =>
 ob (iterD (fun vs4 ds5 h6 => kv4 vs4 fun s_7 f_8 v9 v10 =>
  ob (kbinI .lss v10 v9) fun v11 =>
  kif v11
   (ob (kia 2 s_7 v10) fun v12 =>
   ob (kloadN 2 h6 v12) fun v13 =>
   ob (D f_8 [v13] h6) fun r14 => kres r14 (fun v15 h16 =>
   kif v15
    ((some ⟨2, [v10], ds5, h16⟩))
    (ob (kbinI .add v10 (.int .i64 (.ofNat 1))) fun v19 =>
    (some ⟨0, [s_7, f_8, v9, v19], ds5, h16⟩))) (fun p17 h18 => (some ⟨3, [p17], ds5, h18⟩)))
   ((some ⟨1, [], ds5, h6⟩))) rounds [s_1, f_2, v3, (.int .i64 (.ofNat 0))] [] h) fun r20 => kcase (J.i r20) [kv0 (J.vs r20) ((dleave (fun h21 => (some (false, (.int .i64 (.negSucc 0)), h21))) (J.ds r20) (J.h r20))),
 kv1 (J.vs r20) fun v22 =>
  (dleave (fun h23 => (some (false, v22, h23))) (J.ds r20) (J.h r20)),
 kv1 (J.vs r20) fun p24 => (kds (J.ds r20) (some (true, p24, (J.h r20))))]
theorem F318_ok {S : FS} {D : FD} (hS : SpecsOK Tryz.prog S) (hD : DynOK Tryz.prog D) : SpecOK Tryz.prog 318 (F318 S D) :=
  SpecOK.of (c := match Tryz.f318.body with | some c => c | none => .skip) (by kernel_rfl) hS hD ⟨Tryz.func318, rfl, by decide⟩
    (.seq .n (.seq (.seq .n (.one (.loop [0, 1, 7, 8] [(.exit 0, []), (.ret, [4]), (.pan, [])] (.seq .n (.seq (.dup .n .n) (.seq (.one (.seq .n (.seq .n (.dup (.seq .n .n) .n)))) .n)))))) (.seq .n .n))) 2 (fun args h => by kernel_rfl)
/-- roundhouse/sha.first -/
noncomputable def F319 (S : FS) (D : FD) (args : List AV) (h : Heap) : Option (Bool × AV × Heap) :=
 kv0 args (Heap.pushK h (.cells [(.int .u32 (.ofNat 0)), (.int .u32 (.ofNat 0)), (.int .u32 (.ofNat 0)), (.int .u32 (.ofNat 0)), (.int .u32 (.ofNat 0)), (.int .u32 (.ofNat 0)), (.int .u32 (.ofNat 0)), (.int .u32 (.ofNat 0))] true 431) fun h1 =>
 ob (abuild Tryz.prog 431 [(0, (.int .u32 (.ofNat 1779033703))), (1, (.int .u32 (.ofNat 3144134277))), (2, (.int .u32 (.ofNat 1013904242))), (3, (.int .u32 (.ofNat 2773480762))), (4, (.int .u32 (.ofNat 1359893119))), (5, (.int .u32 (.ofNat 2600822924))), (6, (.int .u32 (.ofNat 528734635))), (7, (.int .u32 (.ofNat 1541459225)))]) fun v2 =>
 ob (kstore 8 (.ptr (Heap.next h) 0) v2 h1) fun h3 =>
 ob (kloadN 8 h3 (.ptr (Heap.next h) 0)) fun v4 => (some (false, v4, h3)))
theorem F319_ok {S : FS} {D : FD} (hS : SpecsOK Tryz.prog S) (hD : DynOK Tryz.prog D) : SpecOK Tryz.prog 319 (F319 S D) :=
  SpecOK.of (c := match Tryz.f319.body with | some c => c | none => .skip) (by kernel_rfl) hS hD ⟨Tryz.func319, rfl, by decide⟩
    (.seq .n (.seq .n .n)) 0 (fun args h => by kernel_rfl)
/-- (*roundhouse/sha.digest).block -/
noncomputable def F320 (S : FS) (D : FD) (args : List AV) (h : Heap) : Option (Bool × AV × Heap) :=
 kv2 args fun d_1 b_2 =>
 ob (S 347 [b_2] h) fun r3 => kres r3 (fun v4 h5 =>
 ob (S 348 [] h5) fun r8 => kres r8 (fun v9 h10 =>
 Heap.pushK h10 (.cells [(.int .u32 (.ofNat 0)), (.int .u32 (.ofNat 0)), (.int .u32 (.ofNat 0)), (.int .u32 (.ofNat 0)), (.int .u32 (.ofNat 0)), (.int .u32 (.ofNat 0)), (.int .u32 (.ofNat 0)), (.int .u32 (.ofNat 0)), (.int .u32 (.ofNat 0)), (.int .u32 (.ofNat 0)), (.int .u32 (.ofNat 0)), (.int .u32 (.ofNat 0)), (.int .u32 (.ofNat 0)), (.int .u32 (.ofNat 0)), (.int .u32 (.ofNat 0)), (.int .u32 (.ofNat 0)), (.int .u32 (.ofNat 0)), (.int .u32 (.ofNat 0)), (.int .u32 (.ofNat 0)), (.int .u32 (.ofNat 0)), (.int .u32 (.ofNat 0)), (.int .u32 (.ofNat 0)), (.int .u32 (.ofNat 0)), (.int .u32 (.ofNat 0)), (.int .u32 (.ofNat 0)), (.int .u32 (.ofNat 0)), (.int .u32 (.ofNat 0)), (.int .u32 (.ofNat 0)), (.int .u32 (.ofNat 0)), (.int .u32 (.ofNat 0)), (.int .u32 (.ofNat 0)), (.int .u32 (.ofNat 0)), (.int .u32 (.ofNat 0)), (.int .u32 (.ofNat 0)), (.int .u32 (.ofNat 0)), (.int .u32 (.ofNat 0)), (.int .u32 (.ofNat 0)), (.int .u32 (.ofNat 0)), (.int .u32 (.ofNat 0)), (.int .u32 (.ofNat 0)), (.int .u32 (.ofNat 0)), (.int .u32 (.ofNat 0)), (.int .u32 (.ofNat 0)), (.int .u32 (.ofNat 0)), (.int .u32 (.ofNat 0)), (.int .u32 (.ofNat 0)), (.int .u32 (.ofNat 0)), (.int .u32 (.ofNat 0)), (.int .u32 (.ofNat 0)), (.int .u32 (.ofNat 0)), (.int .u32 (.ofNat 0)), (.int .u32 (.ofNat 0)), (.int .u32 (.ofNat 0)), (.int .u32 (.ofNat 0)), (.int .u32 (.ofNat 0)), (.int .u32 (.ofNat 0)), (.int .u32 (.ofNat 0)), (.int .u32 (.ofNat 0)), (.int .u32 (.ofNat 0)), (.int .u32 (.ofNat 0)), (.int .u32 (.ofNat 0)), (.int .u32 (.ofNat 0)), (.int .u32 (.ofNat 0)), (.int .u32 (.ofNat 0))] true 455) fun h13 =>
 Heap.pushK h13 (.cells [(.int .u32 (.ofNat 0)), (.int .u32 (.ofNat 0)), (.int .u32 (.ofNat 0)), (.int .u32 (.ofNat 0)), (.int .u32 (.ofNat 0)), (.int .u32 (.ofNat 0)), (.int .u32 (.ofNat 0)), (.int .u32 (.ofNat 0)), (.int .u32 (.ofNat 0)), (.int .u32 (.ofNat 0)), (.int .u32 (.ofNat 0)), (.int .u32 (.ofNat 0)), (.int .u32 (.ofNat 0)), (.int .u32 (.ofNat 0)), (.int .u32 (.ofNat 0)), (.int .u32 (.ofNat 0)), (.int .u32 (.ofNat 0)), (.int .u32 (.ofNat 0)), (.int .u32 (.ofNat 0)), (.int .u32 (.ofNat 0)), (.int .u32 (.ofNat 0)), (.int .u32 (.ofNat 0)), (.int .u32 (.ofNat 0)), (.int .u32 (.ofNat 0)), (.int .u32 (.ofNat 0)), (.int .u32 (.ofNat 0)), (.int .u32 (.ofNat 0)), (.int .u32 (.ofNat 0)), (.int .u32 (.ofNat 0)), (.int .u32 (.ofNat 0)), (.int .u32 (.ofNat 0)), (.int .u32 (.ofNat 0)), (.int .u32 (.ofNat 0)), (.int .u32 (.ofNat 0)), (.int .u32 (.ofNat 0)), (.int .u32 (.ofNat 0)), (.int .u32 (.ofNat 0)), (.int .u32 (.ofNat 0)), (.int .u32 (.ofNat 0)), (.int .u32 (.ofNat 0)), (.int .u32 (.ofNat 0)), (.int .u32 (.ofNat 0)), (.int .u32 (.ofNat 0)), (.int .u32 (.ofNat 0)), (.int .u32 (.ofNat 0)), (.int .u32 (.ofNat 0)), (.int .u32 (.ofNat 0)), (.int .u32 (.ofNat 0)), (.int .u32 (.ofNat 0)), (.int .u32 (.ofNat 0)), (.int .u32 (.ofNat 0)), (.int .u32 (.ofNat 0)), (.int .u32 (.ofNat 0)), (.int .u32 (.ofNat 0)), (.int .u32 (.ofNat 0)), (.int .u32 (.ofNat 0)), (.int .u32 (.ofNat 0)), (.int .u32 (.ofNat 0)), (.int .u32 (.ofNat 0)), (.int .u32 (.ofNat 0)), (.int .u32 (.ofNat 0)), (.int .u32 (.ofNat 0)), (.int .u32 (.ofNat 0)), (.int .u32 (.ofNat 0))] true 455) fun h14 =>
 ob (kstore 64 (.ptr (Heap.next h10) 0) v4 h14) fun h15 =>
 ob (kstore 64 (.ptr (Heap.next h13) 0) v9 h15) fun h16 =>
 ob (knil d_1) fun v17 =>
 ob (kloadN 8 h16 v17) fun v18 =>
 Heap.pushK h16 (.cells [(.int .u32 (.ofNat 0)), (.int .u32 (.ofNat 0)), (.int .u32 (.ofNat 0)), (.int .u32 (.ofNat 0)), (.int .u32 (.ofNat 0)), (.int .u32 (.ofNat 0)), (.int .u32 (.ofNat 0)), (.int .u32 (.ofNat 0))] true 431) fun h19 =>
 ob (kstore 8 (.ptr (Heap.next h16) 0) v18 h19) fun h20 =>
 ob (iterD (fun vs21 ds22 h23 => kv5 vs21 fun d_24 w_25 k_26 v27 v28 =>
  ob (kbinI .lss v28 (.int .i64 (.ofNat 64))) fun v29 =>
  kif v29
   (ob (kiaA 8 1 v27 (.int .i64 (.ofNat 0))) fun v30 =>
   ob (kload h23 v30) fun v31 =>
   ob (kiaA 8 1 v27 (.int .i64 (.ofNat 4))) fun v32 =>
   ob (kload h23 v32) fun v33 =>
   ob (kiaA 8 1 v27 (.int .i64 (.ofNat 7))) fun v34 =>
   ob (kload h23 v34) fun v35 =>
   ob (kiaA 8 1 v27 (.int .i64 (.ofNat 5))) fun v36 =>
   ob (kload h23 v36) fun v37 =>
   ob (kbinI .and v33 v37) fun v38 =>
   ob (aun .xor v33) fun v39 =>
   ob (kiaA 8 1 v27 (.int .i64 (.ofNat 6))) fun v40 =>
   ob (kload h23 v40) fun v41 =>
   ob (kbinI .and v39 v41) fun v42 =>
   ob (kbinI .xor v38 v42) fun v43 =>
   ob (kiaA 64 1 k_26 v28) fun v44 =>
   ob (kload h23 v44) fun v45 =>
   ob (kiaA 64 1 w_25 v28) fun v46 =>
   ob (kload h23 v46) fun v47 =>
   ob (S 349 [v33, (.int .u64 (.ofNat 6))] h23) fun r48 => kres r48 (fun v49 h50 =>
   kre (kload h50 v46) v47 (kre (kload h50 v44) v45 (kre (kload h50 v40) v41 (kre (kload h50 v36) v37 (kre (kload h50 v34) v35 (ob (S 349 [v33, (.int .u64 (.ofNat 11))] h50) fun r53 => kres r53 (fun v54 h55 =>
   kre (kload h55 v46) v47 (kre (kload h55 v44) v45 (kre (kload h55 v40) v41 (kre (kload h55 v36) v37 (kre (kload h55 v34) v35 (ob (kbinI .xor v49 v54) fun v58 =>
   ob (S 349 [v33, (.int .u64 (.ofNat 25))] h55) fun r59 => kres r59 (fun v60 h61 =>
   kre (kload h61 v46) v47 (kre (kload h61 v44) v45 (kre (kload h61 v40) v41 (kre (kload h61 v36) v37 (kre (kload h61 v34) v35 (ob (kbinI .xor v58 v60) fun v64 =>
   ob (kbinI .add v35 v64) fun v65 =>
   ob (kbinI .add v65 v43) fun v66 =>
   ob (kbinI .add v66 v45) fun v67 =>
   ob (kbinI .add v67 v47) fun v68 =>
   ob (kiaA 8 1 v27 (.int .i64 (.ofNat 1))) fun v69 =>
   ob (kload h61 v69) fun v70 =>
   ob (kbinI .and v31 v70) fun v71 =>
   ob (kiaA 8 1 v27 (.int .i64 (.ofNat 2))) fun v72 =>
   ob (kload h61 v72) fun v73 =>
   ob (kbinI .and v31 v73) fun v74 =>
   ob (kbinI .xor v71 v74) fun v75 =>
   ob (kiaA 8 1 v27 (.int .i64 (.ofNat 1))) fun v76 =>
   ob (kload h61 v76) fun v77 =>
   ob (kiaA 8 1 v27 (.int .i64 (.ofNat 2))) fun v78 =>
   ob (kload h61 v78) fun v79 =>
   ob (kbinI .and v77 v79) fun v80 =>
   ob (kbinI .xor v75 v80) fun v81 =>
   ob (S 349 [v31, (.int .u64 (.ofNat 2))] h61) fun r82 => kres r82 (fun v83 h84 =>
   kre (kload h84 v78) v79 (kre (kload h84 v76) v77 (kre (kload h84 v72) v73 (kre (kload h84 v69) v70 (ob (S 349 [v31, (.int .u64 (.ofNat 13))] h84) fun r87 => kres r87 (fun v88 h89 =>
   kre (kload h89 v78) v79 (kre (kload h89 v76) v77 (kre (kload h89 v72) v73 (kre (kload h89 v69) v70 (ob (kbinI .xor v83 v88) fun v92 =>
   ob (S 349 [v31, (.int .u64 (.ofNat 22))] h89) fun r93 => kres r93 (fun v94 h95 =>
   kre (kload h95 v78) v79 (kre (kload h95 v76) v77 (kre (kload h95 v72) v73 (kre (kload h95 v69) v70 (ob (kbinI .xor v92 v94) fun v98 =>
   ob (kbinI .add v98 v81) fun v99 =>
   ob (asliceA Tryz.prog h95 431 v27 (some (.int .i64 (.ofNat 1))) none none) fun v100 =>
   ob (asliceA Tryz.prog h95 431 v27 none (some (.int .i64 (.ofNat 7))) none) fun v101 =>
   ob (acopy Tryz.prog h95 459 v100 v101) fun r102 =>
   ob (kiaA 8 1 v27 (.int .i64 (.ofNat 4))) fun v103 =>
   ob (kload r102.2 v103) fun v104 =>
   ob (kbinI .add v104 v68) fun v105 =>
   ob (kiaA 8 1 v27 (.int .i64 (.ofNat 4))) fun v106 =>
   ob (kstore 1 v106 v105 r102.2) fun h107 =>
   ob (kbinI .add v68 v99) fun v108 =>
   ob (kiaA 8 1 v27 (.int .i64 (.ofNat 0))) fun v109 =>
   ob (kstore 1 v109 v108 h107) fun h110 =>
   ob (kbinI .add v28 (.int .i64 (.ofNat 1))) fun v111 =>
   (some ⟨0, [d_24, w_25, k_26, v27, v111], ds22, h110⟩)))))) (fun p96 h97 => none)))))) (fun p90 h91 => none)))))) (fun p85 h86 => none))))))) (fun p62 h63 => none))))))) (fun p56 h57 => none))))))) (fun p51 h52 => none))
   ((some ⟨1, [d_24, v27], ds22, h23⟩))) rounds [d_1, (.ptr (Heap.next h10) 0), (.ptr (Heap.next h13) 0), (.ptr (Heap.next h16) 0), (.int .i64 (.ofNat 0))] [] h20) fun r112 => kcase (J.i r112) [kv2 (J.vs r112) fun d_113 v114 =>
  ob (iterD (fun vs115 ds116 h117 => kv3 vs115 fun d_118 v119 v120 =>
   ob (kbinI .lss v120 (.int .i64 (.ofNat 8))) fun v121 =>
   kif v121
    (ob (knil d_118) fun v122 =>
    ob (kiaA 8 1 v122 v120) fun v123 =>
    ob (kload h117 v123) fun v124 =>
    ob (kiaA 8 1 v119 v120) fun v125 =>
    ob (kload h117 v125) fun v126 =>
    ob (kbinI .add v124 v126) fun v127 =>
    ob (knil d_118) fun v128 =>
    ob (kiaA 8 1 v128 v120) fun v129 =>
    ob (kstore 1 v129 v127 h117) fun h130 =>
    ob (kbinI .add v120 (.int .i64 (.ofNat 1))) fun v131 =>
    (some ⟨0, [d_118, v119, v131], ds116, h130⟩))
    ((some ⟨1, [], ds116, h117⟩))) rounds [d_113, v114, (.int .i64 (.ofNat 0))] (J.ds r112) (J.h r112)) fun r132 => kcase (J.i r132) [kv0 (J.vs r132) ((dleave (fun h133 => (some (false, (.tuple []), h133))) (J.ds r132) (J.h r132)))],
 kv1 (J.vs r112) fun p134 => (kds (J.ds r112) (some (true, p134, (J.h r112))))]) (fun p11 h12 => (some (true, p11, h12)))) (fun p6 h7 => (some (true, p6, h7)))
theorem F320_ok {S : FS} {D : FD} (hS : SpecsOK Tryz.prog S) (hD : DynOK Tryz.prog D) : SpecOK Tryz.prog 320 (F320 S D) :=
  SpecOK.of (c := match Tryz.f320.body with | some c => c | none => .skip) (by kernel_rfl) hS hD ⟨Tryz.func320, rfl, by decide⟩
    (.seq .n (.seq .n (.seq (.seq .n (.one (.loop [0, 4, 5, 6, 19] [(.exit 0, [0, 6]), (.pan, [])] (.seq .n (.seq (.dup .n .n) (.seq (.one (.seq .n (.seq .n (.seq .n (.seq .n (.seq .n (.seq .n .n))))))) .n)))))) (.seq .n (.one (.loop [0, 6, 93] [(.exit 2, [])] (.seq .n (.seq (.dup .n .n) (.seq (.one (.seq .n .n)) .n))))))))) 2 (fun args h => by kernel_rfl)
/-- slices.siftDownOrdered[int] -/
noncomputable def F321 (S : FS) (D : FD) (args : List AV) (h : Heap) : Option (Bool × AV × Heap) :=
 kv4 args fun data_1 lo_2 hi_3 first_4 =>
 ob (iterD (fun vs5 ds6 h7 => kv4 vs5 fun data_8 hi_9 first_10 root_11 =>
  ob (kbinI .mul (.int .i64 (.ofNat 2)) root_11) fun v12 =>
  ob (kbinI .add v12 (.int .i64 (.ofNat 1))) fun v13 =>
  ob (kbinI .geq v13 hi_9) fun v14 =>
  kif v14
   ((some ⟨1, [], ds6, h7⟩))
   (ob (kbinI .add v13 (.int .i64 (.ofNat 1))) fun v15 =>
   ob (kbinI .lss v15 hi_9) fun v16 =>
   ob (kgv true v16 (some data_8)) fun v17 =>
   ob (kgv true v16 (some first_10)) fun v18 =>
   ob (kgv true v16 (some v13)) fun v19 =>
   ob (kgv true v16 (kbinI .add v18 v19)) fun v20 =>
   ob (kgv true v16 (kia 1 v17 v20)) fun v21 =>
   ob (kgv true v16 (kload h7 v21)) fun v22 =>
   ob (kgv true v16 (some data_8)) fun v23 =>
   ob (kgv true v16 (some first_10)) fun v24 =>
   ob (kgv true v16 (some v13)) fun v25 =>
   ob (kgv true v16 (kbinI .add v24 v25)) fun v26 =>
   ob (kgv true v16 (kbinI .add v26 (.int .i64 (.ofNat 1)))) fun v27 =>
   ob (kgv true v16 (kia 1 v23 v27)) fun v28 =>
   ob (kgv true v16 (kload h7 v28)) fun v29 =>
   ob (kgc true v16 h7 (S 267 [v22, v29] h7)) fun r30 => kres r30 (fun v31 h32 =>
   ob (kpick v16 v31 (.bool false)) fun v35 =>
   ob (kif v35
    (ob (kbinI .add v13 (.int .i64 (.ofNat 1))) fun v37 =>
    (some ⟨0, [data_8, hi_9, first_10, root_11, v37], ds6, h32⟩))
    ((some ⟨0, [data_8, hi_9, first_10, root_11, v13], ds6, h32⟩))) fun r36 => kcase (J.i r36) [kv5 (J.vs r36) fun data_38 hi_39 first_40 root_41 child_42 =>
    ob (kbinI .add first_40 root_41) fun v43 =>
    ob (kia 1 data_38 v43) fun v44 =>
    ob (kload (J.h r36) v44) fun v45 =>
    ob (kbinI .add first_40 child_42) fun v46 =>
    ob (kia 1 data_38 v46) fun v47 =>
    ob (kload (J.h r36) v47) fun v48 =>
    ob (S 267 [v45, v48] (J.h r36)) fun r49 => kres r49 (fun v50 h51 =>
    ob (aun .not v50) fun v54 =>
    kif v54
     ((some ⟨2, [], (J.ds r36), h51⟩))
     (ob (kbinI .add first_40 root_41) fun v55 =>
     ob (kbinI .add first_40 child_42) fun v56 =>
     ob (kbinI .add first_40 child_42) fun v57 =>
     ob (kia 1 data_38 v57) fun v58 =>
     ob (kload h51 v58) fun v59 =>
     ob (kbinI .add first_40 root_41) fun v60 =>
     ob (kia 1 data_38 v60) fun v61 =>
     ob (kload h51 v61) fun v62 =>
     ob (kia 1 data_38 v55) fun v63 =>
     ob (kstore 1 v63 v59 h51) fun h64 =>
     ob (kia 1 data_38 v56) fun v65 =>
     ob (kstore 1 v65 v62 h64) fun h66 =>
     (some ⟨0, [data_38, hi_39, first_40, child_42], (J.ds r36), h66⟩))) (fun p52 h53 => (some ⟨3, [p52], (J.ds r36), h53⟩))]) (fun p33 h34 => (some ⟨3, [p33], ds6, h34⟩)))) rounds [data_1, hi_3, first_4, lo_2] [] h) fun r67 => kcase (J.i r67) [kv0 (J.vs r67) ((dleave (fun h68 => (some (false, (.tuple []), h68))) (J.ds r67) (J.h r67))),
 kv0 (J.vs r67) ((dleave (fun h69 => (some (false, (.tuple []), h69))) (J.ds r67) (J.h r67))),
 kv1 (J.vs r67) fun p70 => (kds (J.ds r67) (some (true, p70, (J.h r67))))]
theorem F321_ok {S : FS} {D : FD} (hS : SpecsOK Tryz.prog S) (hD : DynOK Tryz.prog D) : SpecOK Tryz.prog 321 (F321 S D) :=
  SpecOK.of (c := match Tryz.f321.body with | some c => c | none => .skip) (by kernel_rfl) hS hD ⟨Tryz.func321, rfl, by decide⟩
    (.seq .n (.one (.loop [0, 2, 3, 8] [(.exit 0, []), (.ret, []), (.pan, [])] (.one (.seq .n (.seq (.seq .n (.dup .n .n)) (.seq (.seq .n (.join [(.norm, [0, 2, 3, 8, 9])] (.dup .n .n))) (.seq (.seq .n (.dup .n .n)) (.seq .n .n))))))))) 4 (fun args h => by kernel_rfl)
/-- slices.nextPowerOfTwo -/
noncomputable def F322 (S : FS) (D : FD) (args : List AV) (h : Heap) : Option (Bool × AV × Heap) :=
 kv1 args fun length_1 =>
 ob (kconvI .u64 length_1) fun v2 =>
 ob (S 191 [v2] h) fun r3 => kres r3 (fun v4 h5 =>
 ob (kbinI .shl (.int .u64 (.ofNat 1)) v4) fun v8 =>
 (some (false, v8, h5))) (fun p6 h7 => (some (true, p6, h7)))
theorem F322_ok {S : FS} {D : FD} (hS : SpecsOK Tryz.prog S) (hD : DynOK Tryz.prog D) : SpecOK Tryz.prog 322 (F322 S D) :=
  SpecOK.of (c := match Tryz.f322.body with | some c => c | none => .skip) (by kernel_rfl) hS hD ⟨Tryz.func322, rfl, by decide⟩
    (.seq .n (.seq .n .n)) 1 (fun args h => by kernel_rfl)
/-- (*slices.xorshift).Next -/
noncomputable def F323 (S : FS) (D : FD) (args : List AV) (h : Heap) : Option (Bool × AV × Heap) :=
 kv1 args fun r_1 =>
 ob (knil r_1) fun v2 =>
 ob (kload h v2) fun v3 =>
 ob (knil r_1) fun v4 =>
 ob (kload h v4) fun v5 =>
 ob (kbinI .shl v5 (.int .u64 (.ofNat 13))) fun v6 =>
 ob (kbinI .xor v3 v6) fun v7 =>
 ob (knil r_1) fun v8 =>
 ob (kstore 1 v8 v7 h) fun h9 =>
 ob (knil r_1) fun v10 =>
 ob (kload h9 v10) fun v11 =>
 ob (knil r_1) fun v12 =>
 ob (kload h9 v12) fun v13 =>
 ob (kbinI .shr v13 (.int .u64 (.ofNat 7))) fun v14 =>
 ob (kbinI .xor v11 v14) fun v15 =>
 ob (knil r_1) fun v16 =>
 ob (kstore 1 v16 v15 h9) fun h17 =>
 ob (knil r_1) fun v18 =>
 ob (kload h17 v18) fun v19 =>
 ob (knil r_1) fun v20 =>
 ob (kload h17 v20) fun v21 =>
 ob (kbinI .shl v21 (.int .u64 (.ofNat 17))) fun v22 =>
 ob (kbinI .xor v19 v22) fun v23 =>
 ob (knil r_1) fun v24 =>
 ob (kstore 1 v24 v23 h17) fun h25 =>
 ob (knil r_1) fun v26 =>
 ob (kload h25 v26) fun v27 =>
 (some (false, v27, h25))
theorem F323_ok {S : FS} {D : FD} (hS : SpecsOK Tryz.prog S) (hD : DynOK Tryz.prog D) : SpecOK Tryz.prog 323 (F323 S D) :=
  SpecOK.of (c := match Tryz.f323.body with | some c => c | none => .skip) (by kernel_rfl) hS hD ⟨Tryz.func323, rfl, by decide⟩
    (.seq .n (.seq .n (.seq .n (.seq .n (.seq .n .n))))) 1 (fun args h => by kernel_rfl)
/-- slices.medianAdjacentOrdered[int] -/
noncomputable def F324 (S : FS) (D : FD) (args : List AV) (h : Heap) : Option (Bool × AV × Heap) :=
 kv3 args fun data_1 a_2 swaps_3 =>
 ob (kbinI .sub a_2 (.int .i64 (.ofNat 1))) fun v4 =>
 ob (kbinI .add a_2 (.int .i64 (.ofNat 1))) fun v5 =>
 ob (S 325 [data_1, v4, a_2, v5, swaps_3] h) fun r6 => kres r6 (fun v7 h8 =>
 (some (false, v7, h8))) (fun p9 h10 => (some (true, p9, h10)))
theorem F324_ok {S : FS} {D : FD} (hS : SpecsOK Tryz.prog S) (hD : DynOK Tryz.prog D) : SpecOK Tryz.prog 324 (F324 S D) :=
  SpecOK.of (c := match Tryz.f324.body with | some c => c | none => .skip) (by kernel_rfl) hS hD ⟨Tryz.func324, rfl, by decide⟩
    (.seq .n (.seq .n .n)) 3 (fun args h => by kernel_rfl)
/-- slices.medianOrdered[int] -/
noncomputable def F325 (S : FS) (D : FD) (args : List AV) (h : Heap) : Option (Bool × AV × Heap) :=
 kv5 args fun data_1 a_2 b_3 c_4 swaps_5 =>
 ob (S 350 [data_1, a_2, b_3, swaps_5] h) fun r6 => kres r6 (fun v7 h8 =>
 ob (aextract v7 0) fun v11 =>
 ob (aextract v7 1) fun v12 =>
 ob (S 350 [data_1, v12, c_4, swaps_5] h8) fun r13 => kres r13 (fun v14 h15 =>
 ob (aextract v14 0) fun v18 =>
 ob (aextract v14 1) fun v19 =>
 ob (S 350 [data_1, v11, v18, swaps_5] h15) fun r20 => kres r20 (fun v21 h22 =>
 ob (aextract v21 0) fun v25 =>
 ob (aextract v21 1) fun v26 =>
 (some (false, v26, h22))) (fun p23 h24 => (some (true, p23, h24)))) (fun p16 h17 => (some (true, p16, h17)))) (fun p9 h10 => (some (true, p9, h10)))
theorem F325_ok {S : FS} {D : FD} (hS : SpecsOK Tryz.prog S) (hD : DynOK Tryz.prog D) : SpecOK Tryz.prog 325 (F325 S D) :=
  SpecOK.of (c := match Tryz.f325.body with | some c => c | none => .skip) (by kernel_rfl) hS hD ⟨Tryz.func325, rfl, by decide⟩
    (.seq .n (.seq .n (.seq .n (.seq .n (.seq .n .n))))) 5 (fun args h => by kernel_rfl)
/-- cmp.isNaN[int] -/
noncomputable def F326 (S : FS) (D : FD) (args : List AV) (h : Heap) : Option (Bool × AV × Heap) :=
 kv1 args fun x_1 =>
 ob (kbinI .neq x_1 x_1) fun v2 =>
 (some (false, v2, h))
theorem F326_ok {S : FS} {D : FD} (hS : SpecsOK Tryz.prog S) (hD : DynOK Tryz.prog D) : SpecOK Tryz.prog 326 (F326 S D) :=
  SpecOK.of (c := match Tryz.f326.body with | some c => c | none => .skip) (by kernel_rfl) hS hD ⟨Tryz.func326, rfl, by decide⟩
    (.seq .n (.seq .n .n)) 1 (fun args h => by kernel_rfl)
/-- roundhouse/cred.Encode -/
noncomputable def F327 (S : FS) (D : FD) (args : List AV) (h : Heap) : Option (Bool × AV × Heap) :=
 kv1 args fun c_1 =>
 knt c_1 (Heap.pushK h (.cells (AV.cells c_1) true 336) fun h2 =>
 ob (kloadN 7 h2 (.ptr (Heap.next h) 0)) fun v3 =>
 ob (S 286 [v3] h2) fun r4 => kres r4 (fun v5 h6 =>
 ob (kbinI .neq v5 (.int .i64 (.ofNat 0))) fun v9 =>
 kif v9
  ((some (false, (.str 0 0), h6)))
  (ob (kfa 0 (.ptr (Heap.next h) 0)) fun v10 =>
  ob (kload h6 v10) fun v11 =>
  ob (kfa 1 (.ptr (Heap.next h) 0)) fun v12 =>
  ob (kload h6 v12) fun v13 =>
  ob (kfa 2 (.ptr (Heap.next h) 0)) fun v14 =>
  ob (kload h6 v14) fun v15 =>
  ob (kfa 3 (.ptr (Heap.next h) 0)) fun v16 =>
  ob (kload h6 v16) fun v17 =>
  ob (kfa 4 (.ptr (Heap.next h) 0)) fun v18 =>
  ob (kload h6 v18) fun v19 =>
  ob (kfa 6 (.ptr (Heap.next h) 0)) fun v20 =>
  ob (kload h6 v20) fun v21 =>
  ob (abuild Tryz.prog 463 [(0, v11), (1, v13), (2, v15), (3, v17), (4, v19), (5, v21)]) fun v22 =>
  ob (iterD (fun vs23 ds24 h25 => kv4 vs23 fun c_26 s_27 v28 v29 =>
   ob (kbinI .lss v29 (.int .i64 (.ofNat 6))) fun v30 =>
   kif v30
    (ob (kixA 6 false 1 v28 v29) fun v31 =>
    ob (S 148 [v31] h25) fun r32 => kres r32 (fun v33 h34 =>
    ob (kbinS .add s_27 v33) fun v37 =>
    ob (kbinI .add v29 (.int .i64 (.ofNat 1))) fun v38 =>
    (some ⟨0, [c_26, v37, v28, v38], ds24, h34⟩)) (fun p35 h36 => (some ⟨2, [p35], ds24, h36⟩)))
    ((some ⟨1, [c_26, s_27], ds24, h25⟩))) rounds [(.ptr (Heap.next h) 0), (.str 0 0), v22, (.int .i64 (.ofNat 0))] [] h6) fun r39 => kcase (J.i r39) [kv2 (J.vs r39) fun c_40 s_41 =>
   ob (kfa 5 c_40) fun v42 =>
   ob (kload (J.h r39) v42) fun v43 =>
   ob (S 301 [v43] (J.h r39)) fun r44 => kres r44 (fun v45 h46 =>
   ob (kbinS .add s_41 v45) fun v49 =>
   (dleave (fun h50 => (some (false, v49, h50))) (J.ds r39) h46)) (fun p47 h48 => (kds (J.ds r39) (some (true, p47, h48)))),
  kv1 (J.vs r39) fun p51 => (kds (J.ds r39) (some (true, p51, (J.h r39))))])) (fun p7 h8 => (some (true, p7, h8))))
theorem F327_ok {S : FS} {D : FD} (hS : SpecsOK Tryz.prog S) (hD : DynOK Tryz.prog D) : SpecOK Tryz.prog 327 (F327 S D) :=
  SpecOK.of (c := match Tryz.f327.body with | some c => c | none => .skip) (by kernel_rfl) hS hD ⟨Tryz.func327, rfl, by decide⟩
    (.seq .n (.seq (.seq .n (.dup (.seq .n .n) .n)) (.seq .n (.seq (.seq .n (.one (.loop [1, 3, 21, 22] [(.exit 0, [1, 3]), (.pan, [])] (.seq .n (.seq (.dup .n .n) (.seq (.one (.seq .n .n)) .n)))))) (.seq .n .n))))) 1 (fun args h => by kernel_rfl)
/-- (roundhouse/rec.State).job -/
noncomputable def F328 (S : FS) (D : FD) (args : List AV) (h : Heap) : Option (Bool × AV × Heap) :=
 kv3 args fun s_1 job_2 epoch_3 =>
 knt s_1 (Heap.pushK h (.cells (AV.cells s_1) true 76) fun h4 =>
 knt job_2 (Heap.pushK h4 (.cells (AV.cells job_2) true 3) fun h5 =>
 knt epoch_3 (Heap.pushK h5 (.cells (AV.cells epoch_3) true 3) fun h6 =>
 ob (kfa 0 (.ptr (Heap.next h) 0)) fun v7 =>
 ob (kload h6 v7) fun v8 =>
 ob (S 351 [v8, (.func 352 [(.ptr (Heap.next h4) 0), (.ptr (Heap.next h5) 0)])] h6) fun r9 => kres r9 (fun v10 h11 =>
 (some (false, v10, h11))) (fun p12 h13 => (some (true, p12, h13))))))
theorem F328_ok {S : FS} {D : FD} (hS : SpecsOK Tryz.prog S) (hD : DynOK Tryz.prog D) : SpecOK Tryz.prog 328 (F328 S D) :=
  SpecOK.of (c := match Tryz.f328.body with | some c => c | none => .skip) (by kernel_rfl) hS hD ⟨Tryz.func328, rfl, by decide⟩
    (.seq .n (.seq .n .n)) 3 (fun args h => by kernel_rfl)
/-- roundhouse/sha.padded -/
noncomputable def F329 (S : FS) (D : FD) (args : List AV) (h : Heap) : Option (Bool × AV × Heap) :=
 kv2 args fun key_1 by_2 =>
 Heap.pushK h (.cells [(.int .u8 (.ofNat 0)), (.int .u8 (.ofNat 0)), (.int .u8 (.ofNat 0)), (.int .u8 (.ofNat 0)), (.int .u8 (.ofNat 0)), (.int .u8 (.ofNat 0)), (.int .u8 (.ofNat 0)), (.int .u8 (.ofNat 0)), (.int .u8 (.ofNat 0)), (.int .u8 (.ofNat 0)), (.int .u8 (.ofNat 0)), (.int .u8 (.ofNat 0)), (.int .u8 (.ofNat 0)), (.int .u8 (.ofNat 0)), (.int .u8 (.ofNat 0)), (.int .u8 (.ofNat 0)), (.int .u8 (.ofNat 0)), (.int .u8 (.ofNat 0)), (.int .u8 (.ofNat 0)), (.int .u8 (.ofNat 0)), (.int .u8 (.ofNat 0)), (.int .u8 (.ofNat 0)), (.int .u8 (.ofNat 0)), (.int .u8 (.ofNat 0)), (.int .u8 (.ofNat 0)), (.int .u8 (.ofNat 0)), (.int .u8 (.ofNat 0)), (.int .u8 (.ofNat 0)), (.int .u8 (.ofNat 0)), (.int .u8 (.ofNat 0)), (.int .u8 (.ofNat 0)), (.int .u8 (.ofNat 0)), (.int .u8 (.ofNat 0)), (.int .u8 (.ofNat 0)), (.int .u8 (.ofNat 0)), (.int .u8 (.ofNat 0)), (.int .u8 (.ofNat 0)), (.int .u8 (.ofNat 0)), (.int .u8 (.ofNat 0)), (.int .u8 (.ofNat 0)), (.int .u8 (.ofNat 0)), (.int .u8 (.ofNat 0)), (.int .u8 (.ofNat 0)), (.int .u8 (.ofNat 0)), (.int .u8 (.ofNat 0)), (.int .u8 (.ofNat 0)), (.int .u8 (.ofNat 0)), (.int .u8 (.ofNat 0)), (.int .u8 (.ofNat 0)), (.int .u8 (.ofNat 0)), (.int .u8 (.ofNat 0)), (.int .u8 (.ofNat 0)), (.int .u8 (.ofNat 0)), (.int .u8 (.ofNat 0)), (.int .u8 (.ofNat 0)), (.int .u8 (.ofNat 0)), (.int .u8 (.ofNat 0)), (.int .u8 (.ofNat 0)), (.int .u8 (.ofNat 0)), (.int .u8 (.ofNat 0)), (.int .u8 (.ofNat 0)), (.int .u8 (.ofNat 0)), (.int .u8 (.ofNat 0)), (.int .u8 (.ofNat 0))] true 465) fun h3 =>
 ob (asliceA Tryz.prog h3 465 (.ptr (Heap.next h) 0) none none none) fun v4 =>
 ob (acopy Tryz.prog h3 254 v4 key_1) fun r5 =>
 ob (iterD (fun vs6 ds7 h8 => kv3 vs6 fun by_9 b_10 v11 =>
  ob (kbinI .lss v11 (.int .i64 (.ofNat 64))) fun v12 =>
  kif v12
   (ob (kiaA 64 1 b_10 v11) fun v13 =>
   ob (kload h8 v13) fun v14 =>
   ob (kbinI .xor v14 by_9) fun v15 =>
   ob (kiaA 64 1 b_10 v11) fun v16 =>
   ob (kstore 1 v16 v15 h8) fun h17 =>
   ob (kbinI .add v11 (.int .i64 (.ofNat 1))) fun v18 =>
   (some ⟨0, [by_9, b_10, v18], ds7, h17⟩))
   ((some ⟨1, [b_10], ds7, h8⟩))) rounds [by_2, (.ptr (Heap.next h) 0), (.int .i64 (.ofNat 0))] [] r5.2) fun r19 => kcase (J.i r19) [kv1 (J.vs r19) fun b_20 =>
  ob (asliceA Tryz.prog (J.h r19) 465 b_20 none none none) fun v21 =>
  ob (kbytes (J.h r19) v21) fun v22 =>
  (dleave (fun h23 => (some (false, v22, h23))) (J.ds r19) (J.h r19))]
theorem F329_ok {S : FS} {D : FD} (hS : SpecsOK Tryz.prog S) (hD : DynOK Tryz.prog D) : SpecOK Tryz.prog 329 (F329 S D) :=
  SpecOK.of (c := match Tryz.f329.body with | some c => c | none => .skip) (by kernel_rfl) hS hD ⟨Tryz.func329, rfl, by decide⟩
    (.seq .n (.seq .n (.seq .n (.seq (.seq .n (.one (.loop [1, 5, 10] [(.exit 0, [5])] (.seq .n (.seq (.dup .n .n) (.seq (.one (.seq .n .n)) .n)))))) (.seq .n .n))))) 2 (fun args h => by kernel_rfl)
/-- roundhouse/cred.Check$1 -/
noncomputable def F330 (S : FS) (D : FD) (args : List AV) (h : Heap) : Option (Bool × AV × Heap) :=
 kv1 args fun n_1 =>
 ob (S 289 [n_1, (.int .i64 (.ofNat 0)), (.int .i64 (.ofNat 1099511627776))] h) fun r2 => kres r2 (fun v3 h4 =>
 (some (false, v3, h4))) (fun p5 h6 => (some (true, p5, h6)))
theorem F330_ok {S : FS} {D : FD} (hS : SpecsOK Tryz.prog S) (hD : DynOK Tryz.prog D) : SpecOK Tryz.prog 330 (F330 S D) :=
  SpecOK.of (c := match Tryz.f330.body with | some c => c | none => .skip) (by kernel_rfl) hS hD ⟨Tryz.func330, rfl, by decide⟩
    (.seq .n (.seq .n .n)) 1 (fun args h => by kernel_rfl)
/-- roundhouse/cred.nodes -/
noncomputable def F331 (S : FS) (D : FD) (args : List AV) (h : Heap) : Option (Bool × AV × Heap) :=
 kv1 args fun l_1 =>
 ob (klenL l_1) fun v2 =>
 ob (iterD (fun vs3 ds4 h5 => kv5 vs3 fun l_6 last_7 v8 v9 v10 =>
  ob (kbinI .lss v10 v9) fun v11 =>
  kif v11
   (ob (kia 1 v8 v10) fun v12 =>
   ob (kload h5 v12) fun v13 =>
   ob (kbinI .leq v13 last_7) fun v14 =>
   ob (kgv false v14 (some v13)) fun v15 =>
   ob (kgv false v14 (kbinI .geq v15 (.int .i64 (.ofNat 16)))) fun v16 =>
   ob (kpick v14 (.bool true) v16) fun v17 =>
   kif v17
    ((some ⟨2, [(.bool false)], ds4, h5⟩))
    (ob (kbinI .add v10 (.int .i64 (.ofNat 1))) fun v18 =>
    (some ⟨0, [l_6, v13, v8, v9, v18], ds4, h5⟩)))
   ((some ⟨1, [l_6], ds4, h5⟩))) rounds [l_1, (.int .i64 (.negSucc 0)), l_1, v2, (.int .i64 (.ofNat 0))] [] h) fun r19 => kcase (J.i r19) [kv1 (J.vs r19) fun l_20 =>
  ob (klenL l_20) fun v21 =>
  ob (kbinI .gtr v21 (.int .i64 (.ofNat 0))) fun v22 =>
  (dleave (fun h23 => (some (false, v22, h23))) (J.ds r19) (J.h r19)),
 kv1 (J.vs r19) fun v24 =>
  (dleave (fun h25 => (some (false, v24, h25))) (J.ds r19) (J.h r19))]
theorem F331_ok {S : FS} {D : FD} (hS : SpecsOK Tryz.prog S) (hD : DynOK Tryz.prog D) : SpecOK Tryz.prog 331 (F331 S D) :=
  SpecOK.of (c := match Tryz.f331.body with | some c => c | none => .skip) (by kernel_rfl) hS hD ⟨Tryz.func331, rfl, by decide⟩
    (.seq .n (.seq .n (.seq (.seq .n (.one (.loop [0, 3, 6, 7, 8] [(.exit 0, [0]), (.ret, [2])] (.seq .n (.seq (.dup .n .n) (.seq (.one (.seq .n (.seq (.seq .n (.dup (.seq .n .n) .n)) .n))) .n)))))) (.seq .n .n)))) 1 (fun args h => by kernel_rfl)
/-- roundhouse/cores.of -/
noncomputable def F332 (S : FS) (D : FD) (args : List AV) (h : Heap) : Option (Bool × AV × Heap) :=
 kv1 args fun dist_1 =>
 Heap.pushK h (.cells [AV.nilfunc] true 446) fun h2 =>
 ob (kbinI .eql dist_1 (.int .i64 (.ofNat 0))) fun v3 =>
 kif v3
  (ob (abuild Tryz.prog 446 [(0, (.func 353 []))]) fun v4 =>
  ob (kstore 1 (.ptr (Heap.next h) 0) v4 h2) fun h5 =>
  ob (kloadN 1 h5 (.ptr (Heap.next h) 0)) fun v6 => (some (false, (.tuple [v6, (.bool true)]), h5)))
  (ob (kbinI .eql dist_1 (.int .i64 (.ofNat 1))) fun v7 =>
  kif v7
   (ob (abuild Tryz.prog 446 [(0, (.func 354 []))]) fun v8 =>
   ob (kstore 1 (.ptr (Heap.next h) 0) v8 h2) fun h9 =>
   ob (kloadN 1 h9 (.ptr (Heap.next h) 0)) fun v10 => (some (false, (.tuple [v10, (.bool true)]), h9)))
   (ob (abuild Tryz.prog 446 []) fun v11 =>
   ob (kstore 1 (.ptr (Heap.next h) 0) v11 h2) fun h12 =>
   ob (kloadN 1 h12 (.ptr (Heap.next h) 0)) fun v13 => (some (false, (.tuple [v13, (.bool false)]), h12))))
theorem F332_ok {S : FS} {D : FD} (hS : SpecsOK Tryz.prog S) (hD : DynOK Tryz.prog D) : SpecOK Tryz.prog 332 (F332 S D) :=
  SpecOK.of (c := match Tryz.f332.body with | some c => c | none => .skip) (by kernel_rfl) hS hD ⟨Tryz.func332, rfl, by decide⟩
    (.seq .n (.seq (.seq .n (.one (.seq .n (.dup (.seq .n .n) (.seq .n (.dup (.seq .n .n) .n)))))) (.seq .n .n))) 1 (fun args h => by kernel_rfl)
/-- roundhouse/procs.may -/
noncomputable def F333 (S : FS) (D : FD) (args : List AV) (h : Heap) : Option (Bool × AV × Heap) :=
 kv1 args fun x_1 =>
 knt x_1 (Heap.pushK h (.cells (AV.cells x_1) true 92) fun h2 =>
 ob (kfa 5 (.ptr (Heap.next h) 0)) fun v3 =>
 ob (kload h2 v3) fun v4 =>
 ob (S 171 [v4] h2) fun r5 => kres r5 (fun v6 h7 =>
 ob (aextract v6 0) fun v10 =>
 ob (aextract v6 1) fun v11 =>
 Heap.pushK h7 (.cells [(.int .u64 (.ofNat 0)), (.int .u64 (.ofNat 0)), (.int .u64 (.ofNat 0)), (.int .u64 (.ofNat 0))] true 287) fun h12 =>
 ob (kstore 4 (.ptr (Heap.next h7) 0) v10 h12) fun h13 =>
 ob (kfa 1 (.ptr (Heap.next h) 0)) fun v14 =>
 ob (kload h13 v14) fun v15 =>
 ob (S 355 [v15] h13) fun r16 => kres r16 (fun v17 h18 =>
 ob (kgv true v17 (kfa 2 (.ptr (Heap.next h) 0))) fun v21 =>
 ob (kgv true v17 (kload h18 v21)) fun v22 =>
 ob (kgc true v17 h18 (S 355 [v22] h18)) fun r23 => kres r23 (fun v24 h25 =>
 ob (kpick v17 v24 (.bool false)) fun v28 =>
 ob (kgv true v28 (kfa 3 (.ptr (Heap.next h) 0))) fun v29 =>
 ob (kgv true v28 (kload h25 v29)) fun v30 =>
 ob (kgc true v28 h25 (S 355 [v30] h25)) fun r31 => kres r31 (fun v32 h33 =>
 ob (kpick v28 v32 (.bool false)) fun v36 =>
 ob (kgv true v36 (kfa 4 (.ptr (Heap.next h) 0))) fun v37 =>
 ob (kgv true v36 (kload h33 v37)) fun v38 =>
 ob (kgc true v36 h33 (S 355 [v38] h33)) fun r39 => kres r39 (fun v40 h41 =>
 ob (kpick v36 v40 (.bool false)) fun v44 =>
 ob (kgv true v44 (some v11)) fun v45 =>
 ob (kgv true v44 (kbinI .eql v45 (.int .i64 (.ofNat 0)))) fun v46 =>
 ob (kpick v44 v46 (.bool false)) fun v47 =>
 ob (kgv true v47 (kfa 5 (.ptr (Heap.next h) 0))) fun v48 =>
 ob (kgv true v47 (kload h41 v48)) fun v49 =>
 ob (kgv true v47 (klenL v49)) fun v50 =>
 ob (kgv true v47 (kbinI .gtr v50 (.int .i64 (.ofNat 0)))) fun v51 =>
 ob (kpick v47 v51 (.bool false)) fun v52 =>
 (some (false, v52, h41))) (fun p42 h43 => (some (true, p42, h43)))) (fun p34 h35 => (some (true, p34, h35)))) (fun p26 h27 => (some (true, p26, h27)))) (fun p19 h20 => (some (true, p19, h20)))) (fun p8 h9 => (some (true, p8, h9))))
theorem F333_ok {S : FS} {D : FD} (hS : SpecsOK Tryz.prog S) (hD : DynOK Tryz.prog D) : SpecOK Tryz.prog 333 (F333 S D) :=
  SpecOK.of (c := match Tryz.f333.body with | some c => c | none => .skip) (by kernel_rfl) hS hD ⟨Tryz.func333, rfl, by decide⟩
    (.seq .n (.seq .n (.seq .n .n))) 1 (fun args h => by kernel_rfl)
/-- (roundhouse/mask.Mask).cores -/
noncomputable def F334 (S : FS) (D : FD) (args : List AV) (h : Heap) : Option (Bool × AV × Heap) :=
 kv1 args fun m_1 =>
 knt m_1 (Heap.pushK h (.cells (AV.cells m_1) true 287) fun h2 =>
 (some (false, (.func 356 [(.ptr (Heap.next h) 0)]), h2)))
theorem F334_ok {S : FS} {D : FD} (hS : SpecsOK Tryz.prog S) (hD : DynOK Tryz.prog D) : SpecOK Tryz.prog 334 (F334 S D) :=
  SpecOK.of (c := match Tryz.f334.body with | some c => c | none => .skip) (by kernel_rfl) hS hD ⟨Tryz.func334, rfl, by decide⟩
    (.seq .n (.seq .n .n)) 1 (fun args h => by kernel_rfl)
/-- slices.ContainsFunc[[]roundhouse/rec.Job,roundhouse/rec.Job] -/
noncomputable def F335 (S : FS) (D : FD) (args : List AV) (h : Heap) : Option (Bool × AV × Heap) :=
 kv2 args fun s_1 f_2 =>
 ob (S 351 [s_1, f_2] h) fun r3 => kres r3 (fun v4 h5 =>
 ob (kbinI .geq v4 (.int .i64 (.ofNat 0))) fun v8 =>
 (some (false, v8, h5))) (fun p6 h7 => (some (true, p6, h7)))
theorem F335_ok {S : FS} {D : FD} (hS : SpecsOK Tryz.prog S) (hD : DynOK Tryz.prog D) : SpecOK Tryz.prog 335 (F335 S D) :=
  SpecOK.of (c := match Tryz.f335.body with | some c => c | none => .skip) (by kernel_rfl) hS hD ⟨Tryz.func335, rfl, by decide⟩
    (.seq .n (.seq .n .n)) 2 (fun args h => by kernel_rfl)
/-- (*roundhouse/node.asked).newer$1 -/
noncomputable def F336 (S : FS) (D : FD) (args : List AV) (h : Heap) : Option (Bool × AV × Heap) :=
 kv2 args fun j_1 v2 =>
 knt j_1 (Heap.pushK h (.cells (AV.cells j_1) true 328) fun h3 =>
 ob (kfa 0 (.ptr (Heap.next h) 0)) fun v4 =>
 ob (kload h3 v4) fun v5 =>
 ob (kload h3 v2) fun v6 =>
 ob (knil v6) fun v7 =>
 ob (kfa 0 v7) fun v8 =>
 ob (kfa 3 v8) fun v9 =>
 ob (kload h3 v9) fun v10 =>
 ob (kbinI .eql v5 v10) fun v11 =>
 ob (kgv true v11 (kfa 1 (.ptr (Heap.next h) 0))) fun v12 =>
 ob (kgv true v11 (kload h3 v12)) fun v13 =>
 ob (kgv true v11 (kload h3 v2)) fun v14 =>
 ob (kgv true v11 (knil v14)) fun v15 =>
 ob (kgv true v11 (kfa 0 v15)) fun v16 =>
 ob (kgv true v11 (kfa 4 v16)) fun v17 =>
 ob (kgv true v11 (kload h3 v17)) fun v18 =>
 ob (kgv true v11 (kbinI .gtr v13 v18)) fun v19 =>
 ob (kpick v11 v19 (.bool false)) fun v20 =>
 (some (false, v20, h3)))
theorem F336_ok {S : FS} {D : FD} (hS : SpecsOK Tryz.prog S) (hD : DynOK Tryz.prog D) : SpecOK Tryz.prog 336 (F336 S D) :=
  SpecOK.of (c := match Tryz.f336.body with | some c => c | none => .skip) (by kernel_rfl) hS hD ⟨Tryz.func336, rfl, by decide⟩
    (.seq .n (.seq .n .n)) 2 (fun args h => by kernel_rfl)
/-- slices.ContainsFunc[[]roundhouse/rec.Step,roundhouse/rec.Step] -/
noncomputable def F337 (S : FS) (D : FD) (args : List AV) (h : Heap) : Option (Bool × AV × Heap) :=
 kv2 args fun s_1 f_2 =>
 ob (S 305 [s_1, f_2] h) fun r3 => kres r3 (fun v4 h5 =>
 ob (kbinI .geq v4 (.int .i64 (.ofNat 0))) fun v8 =>
 (some (false, v8, h5))) (fun p6 h7 => (some (true, p6, h7)))
theorem F337_ok {S : FS} {D : FD} (hS : SpecsOK Tryz.prog S) (hD : DynOK Tryz.prog D) : SpecOK Tryz.prog 337 (F337 S D) :=
  SpecOK.of (c := match Tryz.f337.body with | some c => c | none => .skip) (by kernel_rfl) hS hD ⟨Tryz.func337, rfl, by decide⟩
    (.seq .n (.seq .n .n)) 2 (fun args h => by kernel_rfl)
/-- roundhouse/rec.Alive$1 -/
noncomputable def F338 (S : FS) (D : FD) (args : List AV) (h : Heap) : Option (Bool × AV × Heap) :=
 kv3 args fun x_1 v2 v3 =>
 knt x_1 (Heap.pushK h (.cells (AV.cells x_1) true 192) fun h4 =>
 ob (kfa 0 (.ptr (Heap.next h) 0)) fun v5 =>
 ob (kload h4 v5) fun v6 =>
 ob (kload h4 v2) fun v7 =>
 ob (kbinI .eql v6 v7) fun v8 =>
 ob (kgv true v8 (kfa 1 (.ptr (Heap.next h) 0))) fun v9 =>
 ob (kgv true v8 (kload h4 v9)) fun v10 =>
 ob (kgv true v8 (kload h4 v3)) fun v11 =>
 ob (kgv true v8 (kbinI .eql v10 v11)) fun v12 =>
 ob (kpick v8 v12 (.bool false)) fun v13 =>
 ob (kgv true v13 (kfa 3 (.ptr (Heap.next h) 0))) fun v14 =>
 ob (kgv true v13 (kload h4 v14)) fun v15 =>
 ob (kgv true v13 (kbinI .eql v15 (.int .i64 (.ofNat 0)))) fun v16 =>
 ob (kgv true v13 (some v16)) fun v17 =>
 ob (kgv false v17 (kfa 3 (.ptr (Heap.next h) 0))) fun v18 =>
 ob (kgv false v17 (kload h4 v18)) fun v19 =>
 ob (kgv false v17 (kbinI .eql v19 (.int .i64 (.ofNat 1)))) fun v20 =>
 ob (kgv true v13 (kpick v17 (.bool true) v20)) fun v21 =>
 ob (kpick v13 v21 (.bool false)) fun v22 =>
 (some (false, v22, h4)))
theorem F338_ok {S : FS} {D : FD} (hS : SpecsOK Tryz.prog S) (hD : DynOK Tryz.prog D) : SpecOK Tryz.prog 338 (F338 S D) :=
  SpecOK.of (c := match Tryz.f338.body with | some c => c | none => .skip) (by kernel_rfl) hS hD ⟨Tryz.func338, rfl, by decide⟩
    (.seq .n (.seq .n .n)) 3 (fun args h => by kernel_rfl)
/-- roundhouse/acct.Times -/
noncomputable def F339 (S : FS) (D : FD) (args : List AV) (h : Heap) : Option (Bool × AV × Heap) :=
 kv2 args fun a_1 b_2 =>
 ob (amaxs true [a_1, (.int .i64 (.ofNat 0))]) fun v3 =>
 ob (amaxs true [b_2, (.int .i64 (.ofNat 0))]) fun v4 =>
 ob (kbinI .gtr v3 (.int .i64 (.ofNat 0))) fun v5 =>
 ob (kgv true v5 (some v4)) fun v6 =>
 ob (kgv true v5 (some v3)) fun v7 =>
 ob (kgv true v5 (kbinI .quo (.int .i64 (.ofNat 9223372036854775807)) v7)) fun v8 =>
 ob (kgv true v5 (kbinI .gtr v6 v8)) fun v9 =>
 ob (kpick v5 v9 (.bool false)) fun v10 =>
 kif v10
  ((some (false, (.int .i64 (.ofNat 9223372036854775807)), h)))
  (ob (kbinI .mul v3 v4) fun v11 =>
  (some (false, v11, h)))
theorem F339_ok {S : FS} {D : FD} (hS : SpecsOK Tryz.prog S) (hD : DynOK Tryz.prog D) : SpecOK Tryz.prog 339 (F339 S D) :=
  SpecOK.of (c := match Tryz.f339.body with | some c => c | none => .skip) (by kernel_rfl) hS hD ⟨Tryz.func339, rfl, by decide⟩
    (.seq .n (.seq .n (.seq (.seq .n (.dup (.seq .n .n) .n)) (.seq .n .n)))) 2 (fun args h => by kernel_rfl)
/-- (roundhouse/rec.State).newer -/
noncomputable def F340 (S : FS) (D : FD) (args : List AV) (h : Heap) : Option (Bool × AV × Heap) :=
 kv2 args fun s_1 r_2 =>
 knt s_1 (Heap.pushK h (.cells (AV.cells s_1) true 76) fun h3 =>
 knt r_2 (Heap.pushK h3 (.cells (AV.cells r_2) true 120) fun h4 =>
 ob (kfa 0 (.ptr (Heap.next h) 0)) fun v5 =>
 ob (kload h4 v5) fun v6 =>
 ob (S 335 [v6, (.func 357 [(.ptr (Heap.next h3) 0)])] h4) fun r7 => kres r7 (fun v8 h9 =>
 (some (false, v8, h9))) (fun p10 h11 => (some (true, p10, h11)))))
theorem F340_ok {S : FS} {D : FD} (hS : SpecsOK Tryz.prog S) (hD : DynOK Tryz.prog D) : SpecOK Tryz.prog 340 (F340 S D) :=
  SpecOK.of (c := match Tryz.f340.body with | some c => c | none => .skip) (by kernel_rfl) hS hD ⟨Tryz.func340, rfl, by decide⟩
    (.seq .n (.seq .n .n)) 2 (fun args h => by kernel_rfl)
/-- roundhouse/rec.begins$1 -/
noncomputable def F341 (S : FS) (D : FD) (args : List AV) (h : Heap) : Option (Bool × AV × Heap) :=
 kv3 args fun s_1 r_2 v3 =>
 knt r_2 (Heap.pushK h (.cells (AV.cells r_2) true 120) fun h4 =>
 ob (knil s_1) fun v5 =>
 ob (kloadN 3 h4 v5) fun v6 =>
 ob (kfa 1 (.ptr (Heap.next h) 0)) fun v7 =>
 ob (kload h4 v7) fun v8 =>
 ob (kfa 2 (.ptr (Heap.next h) 0)) fun v9 =>
 ob (kload h4 v9) fun v10 =>
 kfree h4 (Heap.pushK h4 (.cells [(.int .i64 (.ofNat 0)), (.int .i64 (.ofNat 0)), (.int .i64 (.ofNat 0))] true 328) fun h11 =>
 ob (S 280 [v6, v8, v10] h11) fun r12 => kres r12 (fun v13 h14 =>
 kro (Heap.next h4) h11 h14 (ob (aextract v13 0) fun v17 =>
 ob (aextract v13 1) fun v18 =>
 ob (kstore 3 (.ptr (Heap.next h4) 0) v17 h14) fun h19 =>
 ob (aun .not v18) fun v20 =>
 ob (kgv false v20 (kfa 2 (.ptr (Heap.next h4) 0))) fun v21 =>
 ob (kgv false v20 (kload h19 v21)) fun v22 =>
 ob (kgv false v20 (kbinI .neq v22 (.int .i64 (.ofNat 0)))) fun v23 =>
 ob (kpick v20 (.bool true) v23) fun v24 =>
 ob (kgv false v24 (some s_1)) fun v25 =>
 ob (kgv false v24 (knil v25)) fun v26 =>
 ob (kgv false v24 (kloadN 3 h19 v26)) fun v27 =>
 ob (kgv false v24 (kfa 1 (.ptr (Heap.next h) 0))) fun v28 =>
 ob (kgv false v24 (kload h19 v28)) fun v29 =>
 ob (kgv false v24 (kfa 2 (.ptr (Heap.next h) 0))) fun v30 =>
 ob (kgv false v24 (kload h19 v30)) fun v31 =>
 ob (kgv false v24 (kfa 3 (.ptr (Heap.next h) 0))) fun v32 =>
 ob (kgv false v24 (kload h19 v32)) fun v33 =>
 ob (kgc false v24 h19 (S 237 [v27, v29, v31, v33] h19)) fun r34 => kres r34 (fun v35 h36 =>
 ob (kgv false v24 (kbinI .geq v35 (.int .i64 (.ofNat 0)))) fun v39 =>
 ob (kpick v24 (.bool true) v39) fun v40 =>
 ob (kgv false v40 (some s_1)) fun v41 =>
 ob (kgv false v40 (knil v41)) fun v42 =>
 ob (kgv false v40 (kfa 1 v42)) fun v43 =>
 ob (kgv false v40 (kload h36 v43)) fun v44 =>
 ob (kgv false v40 (some (.func 342 [(.ptr (Heap.next h) 0)]))) fun v45 =>
 ob (kgc false v40 h36 (S 337 [v44, v45] h36)) fun r46 => kres r46 (fun v47 h48 =>
 ob (kpick v40 (.bool true) v47) fun v51 =>
 kif v51
  ((some (false, (.int .i64 (.ofNat 14)), h48)))
  (ob (knil s_1) fun v52 =>
  ob (kfa 1 v52) fun v53 =>
  ob (kload h48 v53) fun v54 =>
  ob (kfa 1 (.ptr (Heap.next h) 0)) fun v55 =>
  ob (kload h48 v55) fun v56 =>
  ob (kfa 2 (.ptr (Heap.next h) 0)) fun v57 =>
  ob (kload h48 v57) fun v58 =>
  ob (kfa 3 (.ptr (Heap.next h) 0)) fun v59 =>
  ob (kload h48 v59) fun v60 =>
  ob (kload h48 v3) fun v61 =>
  ob (kfa 5 (.ptr (Heap.next h) 0)) fun v62 =>
  ob (kload h48 v62) fun v63 =>
  ob (S 33 [v63] h48) fun r64 => kres r64 (fun v65 h66 =>
  kre (kload h66 v3) v61 (kre (kload h66 v59) v60 (kre (kload h66 v57) v58 (kre (kload h66 v55) v56 (kre (kload h66 v53) v54 (ob (abuild Tryz.prog 192 [(0, v56), (1, v58), (2, v60), (3, v61), (5, v65)]) fun v69 =>
  kfree h66 (ob (abuildSlice Tryz.prog 74 1 [(0, v69)]) fun r70 => Heap.pushK h66 (.cells r70.1 true r70.2.2) fun h71 =>
  ob (aappend Tryz.prog h71 74 74 v54 (.slice (Heap.next h66) 0 1 1 r70.2.1)) fun r72 =>
  ob (knil s_1) fun v73 =>
  ob (kfa 1 v73) fun v74 =>
  ob (kstore 1 v74 r72.1 r72.2) fun h75 =>
  (some (false, (.int .i64 (.ofNat 0)), h75))))))))) (fun p67 h68 => none))) (fun p49 h50 => (some (true, p49, h50)))) (fun p37 h38 => (some (true, p37, h38))))) (fun p15 h16 => none)))
theorem F341_ok {S : FS} {D : FD} (hS : SpecsOK Tryz.prog S) (hD : DynOK Tryz.prog D) : SpecOK Tryz.prog 341 (F341 S D) :=
  SpecOK.of (c := match Tryz.f341.body with | some c => c | none => .skip) (by kernel_rfl) hS hD ⟨Tryz.func341, rfl, by decide⟩
    (.seq .n (.seq .n (.seq .n (.seq (.seq .n (.dup (.seq .n .n) .n)) (.seq .n (.seq .n .n)))))) 3 (fun args h => by kernel_rfl)
end Go.Rh.Tryz
