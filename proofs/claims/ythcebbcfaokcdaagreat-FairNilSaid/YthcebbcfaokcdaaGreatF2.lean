/- Printed by wip/tools/gen.py: functions of the program as plain functions over abstract values, each with its proof. -/
import Derived.Test.YthcebbcfaokcdaaGreatProg
import Derived.Test.YthcebbcfaokcdaaGreatRh3
set_option maxRecDepth 1000000
set_option linter.unusedVariables false
namespace Go.Rh.Tryz
open Go.Proofs
/-- (*roundhouse/ctl.Ctl).Cancel -/
noncomputable def F75 (S : FS) (D : FD) (args : List AV) (h : Heap) : Option (Bool × AV × Heap) :=
 kv2 args fun c_1 id_2 =>
 ob (S 32 [c_1, id_2] h) fun r3 => kres r3 (fun v4 h5 =>
 ob (kbinO Tryz.prog .eql 106 true v4 AV.nilptr) fun v8 =>
 kif v8
  ((some (false, (.int .i64 (.ofNat 1)), h5)))
  (ob (knil v4) fun v9 =>
  ob (kfa 4 v9) fun v10 =>
  ob (kload h5 v10) fun v11 =>
  ob (kbinI .geq v11 (.int .i64 (.ofNat 2))) fun v12 =>
  kif v12
   ((some (false, (.int .i64 (.ofNat 14)), h5)))
   (ob (knil v4) fun v13 =>
   ob (kfa 11 v13) fun v14 =>
   ob (kstore 1 v14 (.bool true) h5) fun h15 =>
   ob (knil v4) fun v16 =>
   ob (kfa 4 v16) fun v17 =>
   ob (kload h15 v17) fun v18 =>
   ob (kbinI .eql v18 (.int .i64 (.ofNat 1))) fun v19 =>
   ob (kif v19
    (ob (S 115 [v4] h15) fun r21 => kres r21 (fun v22 h23 =>
    (some ⟨0, [], [], h23⟩)) (fun p24 h25 => (some ⟨1, [p24], [], h25⟩)))
    ((some ⟨0, [], [], h15⟩))) fun r20 => kcase (J.i r20) [kv0 (J.vs r20) ((dleave (fun h26 => (some (false, (.int .i64 (.ofNat 0)), h26))) (J.ds r20) (J.h r20))),
   kv1 (J.vs r20) fun p27 => (kds (J.ds r20) (some (true, p27, (J.h r20))))]))) (fun p6 h7 => (some (true, p6, h7)))
theorem F75_ok {S : FS} {D : FD} (hS : SpecsOK Tryz.prog S) (hD : DynOK Tryz.prog D) : SpecOK Tryz.prog 75 (F75 S D) :=
  SpecOK.of (c := match Tryz.f75.body with | some c => c | none => .skip) (by kernel_rfl) hS hD ⟨Tryz.func75, rfl, by decide⟩
    (.seq .n (.seq .n (.seq (.one (.seq .n (.dup (.seq .n .n) (.seq .n (.dup (.seq .n .n) .n))))) (.seq .n (.seq (.seq .n (.join [(.norm, []), (.pan, [])] (.dup .n .n))) (.seq .n .n)))))) 2 (fun args h => by kernel_rfl)
/-- roundhouse/journal.records -/
noncomputable def F76 (S : FS) (D : FD) (args : List AV) (h : Heap) : Option (Bool × AV × Heap) :=
 kv1 args fun log_1 =>
 knt log_1 (Heap.pushK h (.cells (AV.cells log_1) true 9) fun h2 =>
 (some (false, (.func 116 [(.ptr (Heap.next h) 0)]), h2)))
theorem F76_ok {S : FS} {D : FD} (hS : SpecsOK Tryz.prog S) (hD : DynOK Tryz.prog D) : SpecOK Tryz.prog 76 (F76 S D) :=
  SpecOK.of (c := match Tryz.f76.body with | some c => c | none => .skip) (by kernel_rfl) hS hD ⟨Tryz.func76, rfl, by decide⟩
    (.seq .n (.seq .n .n)) 1 (fun args h => by kernel_rfl)
/-- roundhouse/wire.Read -/
noncomputable def F77 (S : FS) (D : FD) (args : List AV) (h : Heap) : Option (Bool × AV × Heap) :=
 kv1 args fun s_1 =>
 ob (abuild Tryz.prog 227 [(0, s_1)]) fun v2 =>
 knt v2 (Heap.pushK h (.cells (AV.cells v2) true 227) fun h3 =>
 (some (false, (.ptr (Heap.next h) 0), h3)))
theorem F77_ok {S : FS} {D : FD} (hS : SpecsOK Tryz.prog S) (hD : DynOK Tryz.prog D) : SpecOK Tryz.prog 77 (F77 S D) :=
  SpecOK.of (c := match Tryz.f77.body with | some c => c | none => .skip) (by kernel_rfl) hS hD ⟨Tryz.func77, rfl, by decide⟩
    (.seq .n (.seq .n .n)) 1 (fun args h => by kernel_rfl)
/-- (*roundhouse/wire.Reader).Num -/
noncomputable def F78 (S : FS) (D : FD) (args : List AV) (h : Heap) : Option (Bool × AV × Heap) :=
 kv1 args fun r_1 =>
 knt r_1 (Heap.pushK h (.cells (AV.cells r_1) true 162) fun h2 =>
 Heap.pushK h2 (.cells [(.int .i64 (.ofNat 0))] true 3) fun h3 =>
 ob (kstore 1 (.ptr (Heap.next h2) 0) (.int .i64 (.ofNat 0)) h3) fun h4 =>
 ob (kload h4 (.ptr (Heap.next h) 0)) fun v5 =>
 ob (S 118 [v5, (.func 119 [(.ptr (Heap.next h) 0), (.ptr (Heap.next h2) 0)])] h4) fun r6 => kres r6 (fun v7 h8 =>
 ob (kload h8 (.ptr (Heap.next h2) 0)) fun v11 =>
 (some (false, v11, h8))) (fun p9 h10 => (some (true, p9, h10))))
theorem F78_ok {S : FS} {D : FD} (hS : SpecsOK Tryz.prog S) (hD : DynOK Tryz.prog D) : SpecOK Tryz.prog 78 (F78 S D) :=
  SpecOK.of (c := match Tryz.f78.body with | some c => c | none => .skip) (by kernel_rfl) hS hD ⟨Tryz.func78, rfl, by decide⟩
    (.seq .n (.seq .n (.seq .n (.seq .n .n)))) 1 (fun args h => by kernel_rfl)
/-- (*roundhouse/wire.Reader).List -/
noncomputable def F79 (S : FS) (D : FD) (args : List AV) (h : Heap) : Option (Bool × AV × Heap) :=
 kv2 args fun r_1 most_2 =>
 knt r_1 (Heap.pushK h (.cells (AV.cells r_1) true 162) fun h3 =>
 knt most_2 (Heap.pushK h3 (.cells (AV.cells most_2) true 3) fun h4 =>
 Heap.pushK h4 (.cells [AV.nilslice] true 37) fun h5 =>
 Heap.pushK h5 (.cells [(.bool false)] true 4) fun h6 =>
 ob (kstore 1 (.ptr (Heap.next h5) 0) (.bool false) h6) fun h7 =>
 ob (kload h7 (.ptr (Heap.next h) 0)) fun v8 =>
 ob (S 118 [v8, (.func 121 [(.ptr (Heap.next h) 0), (.ptr (Heap.next h3) 0), (.ptr (Heap.next h4) 0), (.ptr (Heap.next h5) 0)])] h7) fun r9 => kres r9 (fun v10 h11 =>
 ob (kload h11 (.ptr (Heap.next h5) 0)) fun v14 =>
 ob (aun .not v14) fun v15 =>
 kif v15
  ((some (false, AV.nilslice, h11)))
  (ob (kload h11 (.ptr (Heap.next h4) 0)) fun v16 =>
  (some (false, v16, h11)))) (fun p12 h13 => (some (true, p12, h13)))))
theorem F79_ok {S : FS} {D : FD} (hS : SpecsOK Tryz.prog S) (hD : DynOK Tryz.prog D) : SpecOK Tryz.prog 79 (F79 S D) :=
  SpecOK.of (c := match Tryz.f79.body with | some c => c | none => .skip) (by kernel_rfl) hS hD ⟨Tryz.func79, rfl, by decide⟩
    (.seq .n (.seq .n (.seq .n (.seq .n (.seq (.seq .n (.dup (.seq .n .n) .n)) (.seq .n .n)))))) 2 (fun args h => by kernel_rfl)
/-- (*roundhouse/wire.Reader).End -/
noncomputable def F80 (S : FS) (D : FD) (args : List AV) (h : Heap) : Option (Bool × AV × Heap) :=
 kv1 args fun r_1 =>
 ob (kbinO Tryz.prog .eql 162 true r_1 AV.nilptr) fun v2 =>
 kif v2
  ((some (false, (.tuple [(.int .i64 (.ofNat 1)), (.int .i64 (.ofNat 0))]), h)))
  (ob (knil r_1) fun v3 =>
  ob (kfa 2 v3) fun v4 =>
  ob (kload h v4) fun v5 =>
  ob (kbinI .eql v5 (.int .i64 (.ofNat 0))) fun v6 =>
  ob (kgv true v6 (some r_1)) fun v7 =>
  ob (kgv true v6 (knil v7)) fun v8 =>
  ob (kgv true v6 (kfa 1 v8)) fun v9 =>
  ob (kgv true v6 (kload h v9)) fun v10 =>
  ob (kgv true v6 (some r_1)) fun v11 =>
  ob (kgv true v6 (knil v11)) fun v12 =>
  ob (kgv true v6 (kfa 0 v12)) fun v13 =>
  ob (kgv true v6 (kload h v13)) fun v14 =>
  ob (kgv true v6 (klenS v14)) fun v15 =>
  ob (kgv true v6 (kbinI .lss v10 v15)) fun v16 =>
  ob (kpick v6 v16 (.bool false)) fun v17 =>
  kif v17
   (ob (knil r_1) fun v18 =>
   ob (kfa 1 v18) fun v19 =>
   ob (kload h v19) fun v20 =>
   (some (false, (.tuple [(.int .i64 (.ofNat 4)), v20]), h)))
   (ob (knil r_1) fun v21 =>
   ob (kfa 2 v21) fun v22 =>
   ob (kload h v22) fun v23 =>
   ob (knil r_1) fun v24 =>
   ob (kfa 1 v24) fun v25 =>
   ob (kload h v25) fun v26 =>
   (some (false, (.tuple [v23, v26]), h))))
theorem F80_ok {S : FS} {D : FD} (hS : SpecsOK Tryz.prog S) (hD : DynOK Tryz.prog D) : SpecOK Tryz.prog 80 (F80 S D) :=
  SpecOK.of (c := match Tryz.f80.body with | some c => c | none => .skip) (by kernel_rfl) hS hD ⟨Tryz.func80, rfl, by decide⟩
    (.seq .n (.seq (.one (.seq .n (.dup (.seq .n .n) (.seq .n (.dup (.seq .n .n) .n))))) (.seq .n .n))) 1 (fun args h => by kernel_rfl)
/-- roundhouse/rec.may -/
noncomputable def F81 (S : FS) (D : FD) (args : List AV) (h : Heap) : Option (Bool × AV × Heap) :=
 kv1 args fun r_1 =>
 knt r_1 (Heap.pushK h (.cells (AV.cells r_1) true 120) fun h2 =>
 ob (kfa 1 (.ptr (Heap.next h) 0)) fun v3 =>
 ob (kload h2 v3) fun v4 =>
 ob (kfa 2 (.ptr (Heap.next h) 0)) fun v5 =>
 ob (kload h2 v5) fun v6 =>
 ob (kfa 3 (.ptr (Heap.next h) 0)) fun v7 =>
 ob (kload h2 v7) fun v8 =>
 ob (abuild Tryz.prog 229 [(0, v4), (1, v6), (2, v8)]) fun v9 =>
 ob (iterD (fun vs10 ds11 h12 => kv3 vs10 fun r_13 v14 v15 =>
  ob (kbinI .lss v15 (.int .i64 (.ofNat 3))) fun v16 =>
  kif v16
   (ob (kixA 3 false 1 v14 v15) fun v17 =>
   ob (S 123 [v17, (.int .i64 (.ofNat 0)), (.int .i64 (.ofNat 1099511627776))] h12) fun r18 => kres r18 (fun v19 h20 =>
   ob (aun .not v19) fun v23 =>
   kif v23
    ((some ⟨2, [(.bool false)], ds11, h20⟩))
    (ob (kbinI .add v15 (.int .i64 (.ofNat 1))) fun v24 =>
    (some ⟨0, [r_13, v14, v24], ds11, h20⟩))) (fun p21 h22 => (some ⟨3, [p21], ds11, h22⟩)))
   ((some ⟨1, [r_13], ds11, h12⟩))) rounds [(.ptr (Heap.next h) 0), v9, (.int .i64 (.ofNat 0))] [] h2) fun r25 => kcase (J.i r25) [kv1 (J.vs r25) fun r_26 =>
  ob (kfa 0 r_26) fun v27 =>
  ob (kload (J.h r25) v27) fun v28 =>
  ob (S 123 [v28, (.int .i64 (.ofNat 0)), (.int .i64 (.ofNat 7))] (J.h r25)) fun r29 => kres r29 (fun v30 h31 =>
  ob (aun .not v30) fun v34 =>
  ob (kgv false v34 (kfa 4 r_26)) fun v35 =>
  ob (kgv false v34 (kload h31 v35)) fun v36 =>
  ob (kgc false v34 h31 (S 123 [v36, (.int .i64 (.ofNat 0)), (.int .i64 (.ofNat 255))] h31)) fun r37 => kres r37 (fun v38 h39 =>
  ob (kgv false v34 (aun .not v38)) fun v42 =>
  ob (kpick v34 (.bool true) v42) fun v43 =>
  kif v43
   ((dleave (fun h44 => (some (false, (.bool false), h44))) (J.ds r25) h39))
   (ob (kfa 0 r_26) fun v45 =>
   ob (kload h39 v45) fun v46 =>
   ob (kbinI .eql v46 (.int .i64 (.ofNat 1))) fun v47 =>
   kif v47
    (ob (kfa 5 r_26) fun v48 =>
    ob (kload h39 v48) fun v49 =>
    ob (S 124 [v49] h39) fun r50 => kres r50 (fun v51 h52 =>
    (dleave (fun h55 => (some (false, v51, h55))) (J.ds r25) h52)) (fun p53 h54 => (kds (J.ds r25) (some (true, p53, h54)))))
    (ob (kfa 5 r_26) fun v56 =>
    ob (kload h39 v56) fun v57 =>
    ob (klenL v57) fun v58 =>
    ob (kbinI .eql v58 (.int .i64 (.ofNat 0))) fun v59 =>
    (dleave (fun h60 => (some (false, v59, h60))) (J.ds r25) h39)))) (fun p40 h41 => (kds (J.ds r25) (some (true, p40, h41))))) (fun p32 h33 => (kds (J.ds r25) (some (true, p32, h33)))),
 kv1 (J.vs r25) fun v61 =>
  (dleave (fun h62 => (some (false, v61, h62))) (J.ds r25) (J.h r25)),
 kv1 (J.vs r25) fun p63 => (kds (J.ds r25) (some (true, p63, (J.h r25))))])
theorem F81_ok {S : FS} {D : FD} (hS : SpecsOK Tryz.prog S) (hD : DynOK Tryz.prog D) : SpecOK Tryz.prog 81 (F81 S D) :=
  SpecOK.of (c := match Tryz.f81.body with | some c => c | none => .skip) (by kernel_rfl) hS hD ⟨Tryz.func81, rfl, by decide⟩
    (.seq .n (.seq (.seq .n (.one (.loop [1, 11, 12] [(.exit 0, [1]), (.ret, [2]), (.pan, [])] (.seq .n (.seq (.dup .n .n) (.seq (.one (.seq .n (.seq .n (.dup (.seq .n .n) .n)))) .n)))))) (.seq (.seq .n (.dup (.seq .n .n) .n)) (.seq (.seq .n (.dup (.seq .n .n) .n)) (.seq .n .n))))) 1 (fun args h => by kernel_rfl)
/-- slices.Sorted[int] -/
noncomputable def F82 (S : FS) (D : FD) (args : List AV) (h : Heap) : Option (Bool × AV × Heap) :=
 kv1 args fun seq_1 =>
 ob (S 125 [seq_1] h) fun r2 => kres r2 (fun v3 h4 =>
 ob (S 126 [v3] h4) fun r7 => kres r7 (fun v8 h9 =>
 (some (false, v3, h9))) (fun p10 h11 => (some (true, p10, h11)))) (fun p5 h6 => (some (true, p5, h6)))
theorem F82_ok {S : FS} {D : FD} (hS : SpecsOK Tryz.prog S) (hD : DynOK Tryz.prog D) : SpecOK Tryz.prog 82 (F82 S D) :=
  SpecOK.of (c := match Tryz.f82.body with | some c => c | none => .skip) (by kernel_rfl) hS hD ⟨Tryz.func82, rfl, by decide⟩
    (.seq .n (.seq .n (.seq .n (.seq .n .n)))) 1 (fun args h => by kernel_rfl)
/-- maps.Keys[map[int]*roundhouse/procs.process,int,*roundhouse/procs.process] -/
noncomputable def F83 (S : FS) (D : FD) (args : List AV) (h : Heap) : Option (Bool × AV × Heap) :=
 kv1 args fun m_1 =>
 knt m_1 (Heap.pushK h (.cells (AV.cells m_1) true 172) fun h2 =>
 (some (false, (.func 127 [(.ptr (Heap.next h) 0)]), h2)))
theorem F83_ok {S : FS} {D : FD} (hS : SpecsOK Tryz.prog S) (hD : DynOK Tryz.prog D) : SpecOK Tryz.prog 83 (F83 S D) :=
  SpecOK.of (c := match Tryz.f83.body with | some c => c | none => .skip) (by kernel_rfl) hS hD ⟨Tryz.func83, rfl, by decide⟩
    (.seq .n (.seq .n .n)) 1 (fun args h => by kernel_rfl)
/-- (roundhouse/cores.Layout).may -/
noncomputable def F84 (S : FS) (D : FD) (args : List AV) (h : Heap) : Option (Bool × AV × Heap) :=
 kv1 args fun l_1 =>
 knt l_1 (Heap.pushK h (.cells (AV.cells l_1) true 54) fun h2 =>
 ob (kfa 0 (.ptr (Heap.next h) 0)) fun v3 =>
 ob (kload h2 v3) fun v4 =>
 ob (S 128 [v4, (.int .i64 (.ofNat 1)), (.int .i64 (.ofNat 8))] h2) fun r5 => kres r5 (fun v6 h7 =>
 ob (kgv true v6 (kfa 1 (.ptr (Heap.next h) 0))) fun v10 =>
 ob (kgv true v6 (kload h7 v10)) fun v11 =>
 ob (kgc true v6 h7 (S 128 [v11, (.int .i64 (.ofNat 1)), (.int .i64 (.ofNat 64))] h7)) fun r12 => kres r12 (fun v13 h14 =>
 ob (kpick v6 v13 (.bool false)) fun v17 =>
 ob (kgv true v17 (kfa 0 (.ptr (Heap.next h) 0))) fun v18 =>
 ob (kgv true v17 (kload h14 v18)) fun v19 =>
 ob (kgv true v17 (kfa 1 (.ptr (Heap.next h) 0))) fun v20 =>
 ob (kgv true v17 (kload h14 v20)) fun v21 =>
 ob (kgv true v17 (kbinI .mul v19 v21)) fun v22 =>
 ob (kgv true v17 (kbinI .leq v22 (.int .i64 (.ofNat 256)))) fun v23 =>
 ob (kpick v17 v23 (.bool false)) fun v24 =>
 (some (false, v24, h14))) (fun p15 h16 => (some (true, p15, h16)))) (fun p8 h9 => (some (true, p8, h9))))
theorem F84_ok {S : FS} {D : FD} (hS : SpecsOK Tryz.prog S) (hD : DynOK Tryz.prog D) : SpecOK Tryz.prog 84 (F84 S D) :=
  SpecOK.of (c := match Tryz.f84.body with | some c => c | none => .skip) (by kernel_rfl) hS hD ⟨Tryz.func84, rfl, by decide⟩
    (.seq .n (.seq .n .n)) 1 (fun args h => by kernel_rfl)
/-- roundhouse/pool.New -/
noncomputable def F85 (S : FS) (D : FD) (args : List AV) (h : Heap) : Option (Bool × AV × Heap) :=
 kv1 args fun l_1 =>
 knt l_1 (Heap.pushK h (.cells (AV.cells l_1) true 54) fun h2 =>
 ob (kloadN 2 h2 (.ptr (Heap.next h) 0)) fun v3 =>
 ob (S 55 [v3] h2) fun r4 => kres r4 (fun v5 h6 =>
 ob (kbinI .neq v5 (.int .i64 (.ofNat 0))) fun v9 =>
 kif v9
  ((some (false, AV.nilptr, h6)))
  (ob (kloadN 2 h6 (.ptr (Heap.next h) 0)) fun v10 =>
  Heap.pushK h6 (.map [] [] 0) fun h11 =>
  ob (abuild Tryz.prog 233 [(0, v10), (1, (.map (Heap.next h6)))]) fun v12 =>
  knt v12 (Heap.pushK h11 (.cells (AV.cells v12) true 233) fun h13 =>
  (some (false, (.ptr (Heap.next h11) 0), h13))))) (fun p7 h8 => (some (true, p7, h8))))
theorem F85_ok {S : FS} {D : FD} (hS : SpecsOK Tryz.prog S) (hD : DynOK Tryz.prog D) : SpecOK Tryz.prog 85 (F85 S D) :=
  SpecOK.of (c := match Tryz.f85.body with | some c => c | none => .skip) (by kernel_rfl) hS hD ⟨Tryz.func85, rfl, by decide⟩
    (.seq .n (.seq (.seq .n (.dup (.seq .n .n) .n)) (.seq .n .n))) 1 (fun args h => by kernel_rfl)
/-- roundhouse/replay.New -/
noncomputable def F86 (S : FS) (D : FD) (args : List AV) (h : Heap) : Option (Bool × AV × Heap) :=
 kv1 args fun most_1 =>
 ob (kbinI .lss most_1 (.int .i64 (.ofNat 1))) fun v2 =>
 ob (kgv false v2 (some most_1)) fun v3 =>
 ob (kgv false v2 (kbinI .gtr v3 (.int .i64 (.ofNat 64)))) fun v4 =>
 ob (kpick v2 (.bool true) v4) fun v5 =>
 kif v5
  ((some (false, AV.nilptr, h)))
  (Heap.pushK h (.map [] [] 0) fun h6 =>
  Heap.pushK h6 (.map [] [] 0) fun h7 =>
  ob (abuild Tryz.prog 236 [(0, most_1), (1, (.map (Heap.next h))), (2, (.map (Heap.next h6)))]) fun v8 =>
  knt v8 (Heap.pushK h7 (.cells (AV.cells v8) true 236) fun h9 =>
  (some (false, (.ptr (Heap.next h7) 0), h9))))
theorem F86_ok {S : FS} {D : FD} (hS : SpecsOK Tryz.prog S) (hD : DynOK Tryz.prog D) : SpecOK Tryz.prog 86 (F86 S D) :=
  SpecOK.of (c := match Tryz.f86.body with | some c => c | none => .skip) (by kernel_rfl) hS hD ⟨Tryz.func86, rfl, by decide⟩
    (.seq .n (.seq (.seq .n (.dup (.seq .n .n) .n)) (.seq .n .n))) 1 (fun args h => by kernel_rfl)
/-- slices.DeleteFunc[[]int,int] -/
noncomputable def F87 (S : FS) (D : FD) (args : List AV) (h : Heap) : Option (Bool × AV × Heap) :=
 kv2 args fun s_1 del_2 =>
 ob (S 129 [s_1, del_2] h) fun r3 => kres r3 (fun v4 h5 =>
 ob (kbinI .eql v4 (.int .i64 (.negSucc 0))) fun v8 =>
 kif v8
  ((some (false, s_1, h5)))
  (ob (kbinI .add v4 (.int .i64 (.ofNat 1))) fun v9 =>
  ob (iterD (fun vs10 ds11 h12 => kv4 vs10 fun s_13 del_14 i_15 j_16 =>
   ob (klenL s_13) fun v17 =>
   ob (kbinI .lss j_16 v17) fun v18 =>
   kif v18
    (ob (kia 1 s_13 j_16) fun v19 =>
    ob (kload h12 v19) fun v20 =>
    ob (D del_14 [v20] h12) fun r21 => kres r21 (fun v22 h23 =>
    ob (aun .not v22) fun v26 =>
    ob (kif v26
     (ob (kia 1 s_13 i_15) fun v28 =>
     ob (kstore 1 v28 v20 h23) fun h29 =>
     ob (kbinI .add i_15 (.int .i64 (.ofNat 1))) fun v30 =>
     (some ⟨0, [s_13, del_14, v30, j_16], ds11, h29⟩))
     ((some ⟨0, [s_13, del_14, i_15, j_16], ds11, h23⟩))) fun r27 => kcase (J.i r27) [kv4 (J.vs r27) fun s_31 del_32 i_33 j_34 =>
     ob (kbinI .add j_34 (.int .i64 (.ofNat 1))) fun v35 =>
     (some ⟨0, [s_31, del_32, i_33, v35], (J.ds r27), (J.h r27)⟩)]) (fun p24 h25 => (some ⟨2, [p24], ds11, h25⟩)))
    ((some ⟨1, [s_13, i_15], ds11, h12⟩))) rounds [s_1, del_2, v4, v9] [] h5) fun r36 => kcase (J.i r36) [kv2 (J.vs r36) fun s_37 i_38 =>
   ob (aslice Tryz.prog 37 s_37 (some i_38) none none) fun v39 =>
   ob (aclear Tryz.prog (J.h r36) 37 v39) fun h40 =>
   ob (aslice Tryz.prog 37 s_37 none (some i_38) none) fun v41 =>
   (dleave (fun h42 => (some (false, v41, h42))) (J.ds r36) h40),
  kv1 (J.vs r36) fun p43 => (kds (J.ds r36) (some (true, p43, (J.h r36))))])) (fun p6 h7 => (some (true, p6, h7)))
theorem F87_ok {S : FS} {D : FD} (hS : SpecsOK Tryz.prog S) (hD : DynOK Tryz.prog D) : SpecOK Tryz.prog 87 (F87 S D) :=
  SpecOK.of (c := match Tryz.f87.body with | some c => c | none => .skip) (by kernel_rfl) hS hD ⟨Tryz.func87, rfl, by decide⟩
    (.seq .n (.seq .n (.seq (.seq .n (.dup (.seq .n .n) .n)) (.seq (.seq .n (.one (.loop [0, 1, 5, 6] [(.exit 0, [0, 5]), (.pan, [])] (.seq (.seq .n (.dup .n .n)) (.seq (.one (.seq .n (.seq .n (.join [(.norm, [0, 1, 5, 6])] (.dup (.seq .n .n) .n))))) .n))))) (.seq .n (.seq .n .n)))))) 2 (fun args h => by kernel_rfl)
/-- roundhouse/tally.silent[bool]$1 -/
noncomputable def F88 (S : FS) (D : FD) (args : List AV) (h : Heap) : Option (Bool × AV × Heap) :=
 kv2 args fun n_1 v2 =>
 ob (kload h v2) fun v3 =>
 ob (alookup Tryz.prog h 137 v3 n_1 false) fun v4 =>
 ob (kbinO Tryz.prog .neq 141 true v4 AV.nilptr) fun v5 =>
 (some (false, v5, h))
theorem F88_ok {S : FS} {D : FD} (hS : SpecsOK Tryz.prog S) (hD : DynOK Tryz.prog D) : SpecOK Tryz.prog 88 (F88 S D) :=
  SpecOK.of (c := match Tryz.f88.body with | some c => c | none => .skip) (by kernel_rfl) hS hD ⟨Tryz.func88, rfl, by decide⟩
    (.seq .n (.seq .n .n)) 2 (fun args h => by kernel_rfl)
/-- roundhouse/tally.silent[int]$1 -/
noncomputable def F89 (S : FS) (D : FD) (args : List AV) (h : Heap) : Option (Bool × AV × Heap) :=
 kv2 args fun n_1 v2 =>
 ob (kload h v2) fun v3 =>
 ob (alookup Tryz.prog h 138 v3 n_1 false) fun v4 =>
 ob (kbinO Tryz.prog .neq 183 true v4 AV.nilptr) fun v5 =>
 (some (false, v5, h))
theorem F89_ok {S : FS} {D : FD} (hS : SpecsOK Tryz.prog S) (hD : DynOK Tryz.prog D) : SpecOK Tryz.prog 89 (F89 S D) :=
  SpecOK.of (c := match Tryz.f89.body with | some c => c | none => .skip) (by kernel_rfl) hS hD ⟨Tryz.func89, rfl, by decide⟩
    (.seq .n (.seq .n .n)) 2 (fun args h => by kernel_rfl)
/-- (*roundhouse/ctl.Ctl).Submit$1 -/
noncomputable def F90 (S : FS) (D : FD) (args : List AV) (h : Heap) : Option (Bool × AV × Heap) :=
 kv1 args fun s_1 =>
 knt s_1 (Heap.pushK h (.cells (AV.cells s_1) true 50) fun h2 =>
 ob (kfa 0 (.ptr (Heap.next h) 0)) fun v3 =>
 ob (kload h2 v3) fun v4 =>
 ob (kfa 1 (.ptr (Heap.next h) 0)) fun v5 =>
 ob (kload h2 v5) fun v6 =>
 ob (kbinI .mul v4 v6) fun v7 =>
 ob (kbinI .gtr v7 (.int .i64 (.ofNat 256))) fun v8 =>
 (some (false, v8, h2)))
theorem F90_ok {S : FS} {D : FD} (hS : SpecsOK Tryz.prog S) (hD : DynOK Tryz.prog D) : SpecOK Tryz.prog 90 (F90 S D) :=
  SpecOK.of (c := match Tryz.f90.body with | some c => c | none => .skip) (by kernel_rfl) hS hD ⟨Tryz.func90, rfl, by decide⟩
    (.seq .n (.seq .n .n)) 1 (fun args h => by kernel_rfl)
/-- roundhouse/dag.Check -/
noncomputable def F91 (S : FS) (D : FD) (args : List AV) (h : Heap) : Option (Bool × AV × Heap) :=
 kv1 args fun l_1 =>
 ob (klenL l_1) fun v2 =>
 ob (S 130 [v2, (.int .i64 (.ofNat 1)), (.int .i64 (.ofNat 16))] h) fun r3 => kres r3 (fun v4 h5 =>
 ob (aun .not v4) fun v8 =>
 kif v8
  ((some (false, (.int .i64 (.ofNat 1)), h5)))
  (ob (klenL l_1) fun v9 =>
  ob (iterD (fun vs10 ds11 h12 => kv4 vs10 fun l_13 v14 v15 v16 =>
   ob (kbinI .lss v16 v15) fun v17 =>
   kif v17
    (ob (kia 5 v14 v16) fun v18 =>
    ob (kloadN 5 h12 v18) fun v19 =>
    Heap.pushK h12 (.cells [(.int .i64 (.ofNat 0)), (.int .i64 (.ofNat 0)), (.int .i64 (.ofNat 0)), (.int .i64 (.ofNat 0)), AV.nilslice] true 50) fun h20 =>
    ob (kstore 5 (.ptr (Heap.next h12) 0) v19 h20) fun h21 =>
    ob (kloadN 5 h21 (.ptr (Heap.next h12) 0)) fun v22 =>
    ob (klenL l_13) fun v23 =>
    ob (S 131 [v22, v16, v23] h21) fun r24 => kres r24 (fun v25 h26 =>
    ob (aun .not v25) fun v29 =>
    kif v29
     ((some ⟨2, [(.int .i64 (.ofNat 1))], ds11, h26⟩))
     (ob (kbinI .add v16 (.int .i64 (.ofNat 1))) fun v30 =>
     (some ⟨0, [l_13, v14, v15, v30], ds11, h26⟩))) (fun p27 h28 => (some ⟨3, [p27], ds11, h28⟩)))
    ((some ⟨1, [l_13], ds11, h12⟩))) rounds [l_1, l_1, v9, (.int .i64 (.ofNat 0))] [] h5) fun r31 => kcase (J.i r31) [kv1 (J.vs r31) fun l_32 =>
   ob (S 132 [l_32] (J.h r31)) fun r33 => kres r33 (fun v34 h35 =>
   ob (klenL v34) fun v38 =>
   ob (klenL l_32) fun v39 =>
   ob (kbinI .lss v38 v39) fun v40 =>
   kif v40
    ((dleave (fun h41 => (some (false, (.int .i64 (.ofNat 15)), h41))) (J.ds r31) h35))
    ((dleave (fun h42 => (some (false, (.int .i64 (.ofNat 0)), h42))) (J.ds r31) h35))) (fun p36 h37 => (kds (J.ds r31) (some (true, p36, h37)))),
  kv1 (J.vs r31) fun v43 =>
   (dleave (fun h44 => (some (false, v43, h44))) (J.ds r31) (J.h r31)),
  kv1 (J.vs r31) fun p45 => (kds (J.ds r31) (some (true, p45, (J.h r31))))])) (fun p6 h7 => (some (true, p6, h7)))
theorem F91_ok {S : FS} {D : FD} (hS : SpecsOK Tryz.prog S) (hD : DynOK Tryz.prog D) : SpecOK Tryz.prog 91 (F91 S D) :=
  SpecOK.of (c := match Tryz.f91.body with | some c => c | none => .skip) (by kernel_rfl) hS hD ⟨Tryz.func91, rfl, by decide⟩
    (.seq .n (.seq (.seq .n (.dup (.seq .n .n) .n)) (.seq (.seq .n (.one (.loop [0, 9, 10, 11] [(.exit 0, [0]), (.ret, [2]), (.pan, [])] (.seq .n (.seq (.dup .n .n) (.seq (.one (.seq .n (.seq .n (.dup (.seq .n .n) .n)))) .n)))))) (.seq (.seq .n (.dup (.seq .n .n) .n)) (.seq .n .n))))) 1 (fun args h => by kernel_rfl)
/-- roundhouse/ctl.nodes -/
noncomputable def F92 (S : FS) (D : FD) (args : List AV) (h : Heap) : Option (Bool × AV × Heap) :=
 kv1 args fun l_1 =>
 ob (S 133 [l_1] h) fun r2 => kres r2 (fun v3 h4 =>
 ob (kbinO Tryz.prog .neq 112 true v3 AV.nilptr) fun v7 =>
 (some (false, v7, h4))) (fun p5 h6 => (some (true, p5, h6)))
theorem F92_ok {S : FS} {D : FD} (hS : SpecsOK Tryz.prog S) (hD : DynOK Tryz.prog D) : SpecOK Tryz.prog 92 (F92 S D) :=
  SpecOK.of (c := match Tryz.f92.body with | some c => c | none => .skip) (by kernel_rfl) hS hD ⟨Tryz.func92, rfl, by decide⟩
    (.seq .n (.seq .n .n)) 1 (fun args h => by kernel_rfl)
/-- slices.ContainsFunc[[]roundhouse/api.Step,roundhouse/api.Step] -/
noncomputable def F93 (S : FS) (D : FD) (args : List AV) (h : Heap) : Option (Bool × AV × Heap) :=
 kv2 args fun s_1 f_2 =>
 ob (S 134 [s_1, f_2] h) fun r3 => kres r3 (fun v4 h5 =>
 ob (kbinI .geq v4 (.int .i64 (.ofNat 0))) fun v8 =>
 (some (false, v8, h5))) (fun p6 h7 => (some (true, p6, h7)))
theorem F93_ok {S : FS} {D : FD} (hS : SpecsOK Tryz.prog S) (hD : DynOK Tryz.prog D) : SpecOK Tryz.prog 93 (F93 S D) :=
  SpecOK.of (c := match Tryz.f93.body with | some c => c | none => .skip) (by kernel_rfl) hS hD ⟨Tryz.func93, rfl, by decide⟩
    (.seq .n (.seq .n .n)) 2 (fun args h => by kernel_rfl)
/-- (*roundhouse/ctl.job).begin -/
noncomputable def F94 (S : FS) (D : FD) (args : List AV) (h : Heap) : Option (Bool × AV × Heap) :=
 kv1 args fun x_1 =>
 ob (knil x_1) fun v2 =>
 ob (kfa 4 v2) fun v3 =>
 ob (kstore 1 v3 (.int .i64 (.ofNat 0)) h) fun h4 =>
 ob (knil x_1) fun v5 =>
 ob (kfa 5 v5) fun v6 =>
 ob (kstore 1 v6 (.int .i64 (.ofNat 0)) h4) fun h7 =>
 ob (knil x_1) fun v8 =>
 ob (kfa 6 v8) fun v9 =>
 ob (kstore 1 v9 (.int .i64 (.ofNat 0)) h7) fun h10 =>
 ob (abuildSlice Tryz.prog 37 1 [(0, (.int .i64 (.negSucc 0)))]) fun r11 => Heap.pushK h10 (.cells r11.1 true r11.2.2) fun h12 =>
 ob (knil x_1) fun v13 =>
 ob (kfa 0 v13) fun v14 =>
 ob (kfa 1 v14) fun v15 =>
 ob (kload h12 v15) fun v16 =>
 ob (klenL v16) fun v17 =>
 ob (S 135 [(.slice (Heap.next h10) 0 1 1 r11.2.1), v17] h12) fun r18 => kres r18 (fun v19 h20 =>
 ob (knil x_1) fun v23 =>
 ob (kfa 7 v23) fun v24 =>
 ob (kstore 1 v24 v19 h20) fun h25 =>
 ob (knil x_1) fun v26 =>
 ob (kfa 0 v26) fun v27 =>
 ob (kfa 1 v27) fun v28 =>
 ob (kload h25 v28) fun v29 =>
 ob (klenL v29) fun v30 =>
 ob (amakeSlice Tryz.prog 108 v30 v30) fun r31 => Heap.pushK h25 (.cells r31.1 true r31.2.2.2.2) fun h32 =>
 ob (knil x_1) fun v33 =>
 ob (kfa 8 v33) fun v34 =>
 ob (kstore 1 v34 (.slice (Heap.next h25) 0 r31.2.1 r31.2.2.1 r31.2.2.2.1) h32) fun h35 =>
 Heap.pushK h35 (.map [] [] 0) fun h36 =>
 Heap.pushK h36 (.map [] [] 0) fun h37 =>
 ob (knil x_1) fun v38 =>
 ob (kfa 9 v38) fun v39 =>
 ob (kstore 1 v39 (.map (Heap.next h35)) h37) fun h40 =>
 ob (knil x_1) fun v41 =>
 ob (kfa 10 v41) fun v42 =>
 ob (kstore 1 v42 (.map (Heap.next h36)) h40) fun h43 =>
 (some (false, (.tuple []), h43))) (fun p21 h22 => (some (true, p21, h22)))
theorem F94_ok {S : FS} {D : FD} (hS : SpecsOK Tryz.prog S) (hD : DynOK Tryz.prog D) : SpecOK Tryz.prog 94 (F94 S D) :=
  SpecOK.of (c := match Tryz.f94.body with | some c => c | none => .skip) (by kernel_rfl) hS hD ⟨Tryz.func94, rfl, by decide⟩
    (.seq .n (.seq .n (.seq .n .n))) 1 (fun args h => by kernel_rfl)
/-- (*roundhouse/agent.Agent).living -/
noncomputable def F95 (S : FS) (D : FD) (args : List AV) (h : Heap) : Option (Bool × AV × Heap) :=
 kv1 args fun a_1 =>
 knt a_1 (Heap.pushK h (.cells (AV.cells a_1) true 35) fun h2 =>
 (some (false, (.func 136 [(.ptr (Heap.next h) 0)]), h2)))
theorem F95_ok {S : FS} {D : FD} (hS : SpecsOK Tryz.prog S) (hD : DynOK Tryz.prog D) : SpecOK Tryz.prog 95 (F95 S D) :=
  SpecOK.of (c := match Tryz.f95.body with | some c => c | none => .skip) (by kernel_rfl) hS hD ⟨Tryz.func95, rfl, by decide⟩
    (.seq .n (.seq .n .n)) 1 (fun args h => by kernel_rfl)
/-- (*roundhouse/agent.Agent).plan -/
noncomputable def F96 (S : FS) (D : FD) (args : List AV) (h : Heap) : Option (Bool × AV × Heap) :=
 kv2 args fun a_1 x_2 =>
 knt x_2 (Heap.pushK h (.cells (AV.cells x_2) true 192) fun h3 =>
 Heap.pushK h3 (.cells [(.int .i64 (.ofNat 0)), (.int .i64 (.ofNat 0)), (.int .i64 (.ofNat 0)), (.int .i64 (.ofNat 0))] true 194) fun h4 =>
 Heap.pushK h4 (.cells [(.int .i64 (.ofNat 0)), (.int .i64 (.ofNat 0))] true 196) fun h5 =>
 ob (knil a_1) fun v6 =>
 ob (kfa 0 v6) fun v7 =>
 ob (kfa 3 v7) fun v8 =>
 ob (kload h5 v8) fun v9 =>
 ob (kfa 5 (.ptr (Heap.next h) 0)) fun v10 =>
 ob (kload h5 v10) fun v11 =>
 ob (kia 1 v11 (.int .i64 (.ofNat 0))) fun v12 =>
 ob (kload h5 v12) fun v13 =>
 ob (alookup Tryz.prog h5 68 v9 v13 false) fun v14 =>
 kfree h5 (Heap.pushK h5 (.cells [(.int .i64 (.ofNat 0)), (.int .i64 (.ofNat 0))] true 246) fun h15 =>
 ob (kstore 2 (.ptr (Heap.next h5) 0) v14 h15) fun h16 =>
 ob (kfa 5 (.ptr (Heap.next h) 0)) fun v17 =>
 ob (kload h16 v17) fun v18 =>
 ob (klenL v18) fun v19 =>
 ob (iterD (fun vs20 ds21 h22 => kv8 vs20 fun a_23 x_24 v25 v26 first_27 v28 v29 v30 =>
  ob (kbinI .lss v30 v29) fun v31 =>
  kif v31
   (ob (kia 1 v28 v30) fun v32 =>
   ob (kload h22 v32) fun v33 =>
   ob (kfa 0 first_27) fun v34 =>
   ob (kload h22 v34) fun v35 =>
   ob (knil a_23) fun v36 =>
   ob (kfa 0 v36) fun v37 =>
   ob (kfa 3 v37) fun v38 =>
   ob (kload h22 v38) fun v39 =>
   ob (alookup Tryz.prog h22 68 v39 v33 false) fun v40 =>
   ob (kfield false 0 1 v40) fun v41 =>
   ob (amaxs false [v35, v41]) fun v42 =>
   ob (kfa 0 first_27) fun v43 =>
   ob (kstore 1 v43 v42 h22) fun h44 =>
   ob (kbinI .add v30 (.int .i64 (.ofNat 1))) fun v45 =>
   (some ⟨0, [a_23, x_24, v25, v26, first_27, v28, v29, v45], ds21, h44⟩))
   ((some ⟨1, [a_23, x_24, v25, v26, first_27], ds21, h22⟩))) rounds [a_1, (.ptr (Heap.next h) 0), (.ptr (Heap.next h3) 0), (.ptr (Heap.next h4) 0), (.ptr (Heap.next h5) 0), v18, v19, (.int .i64 (.ofNat 0))] [] h16) fun r46 => kcase (J.i r46) [kv5 (J.vs r46) fun a_47 x_48 v49 v50 first_51 =>
  ob (kfa 0 first_51) fun v52 =>
  ob (kload (J.h r46) v52) fun v53 =>
  ob (abuild Tryz.prog 196 [(0, v53), (1, (.int .i64 (.negSucc 0)))]) fun v54 =>
  Heap.pushK (J.h r46) (.cells [(.int .i64 (.ofNat 0)), (.int .i64 (.ofNat 0))] true 196) fun h55 =>
  ob (kstore 2 (.ptr (Heap.next (J.h r46)) 0) v54 h55) fun h56 =>
  ob (knil a_47) fun v57 =>
  ob (kfa 17 v57) fun v58 =>
  ob (kload h56 v58) fun v59 =>
  ob (kloadN 6 h56 x_48) fun v60 =>
  ob (S 138 [v60] h56) fun r61 => kres r61 (fun v62 h63 =>
  kre (kload h63 v58) v59 (ob (alookup Tryz.prog h63 79 v59 v62 true) fun v66 =>
  ob (aextract v66 0) fun v67 =>
  ob (aextract v66 1) fun v68 =>
  ob (kif v68
   (ob (kfa 1 (.ptr (Heap.next (J.h r46)) 0)) fun v70 =>
   ob (kstore 1 v70 v67 h63) fun h71 =>
   (some ⟨0, [a_47, v49, v50, first_51, (.ptr (Heap.next (J.h r46)) 0)], (J.ds r46), h71⟩))
   ((some ⟨0, [a_47, v49, v50, first_51, (.ptr (Heap.next (J.h r46)) 0)], (J.ds r46), h63⟩))) fun r69 => kcase (J.i r69) [kv5 (J.vs r69) fun a_72 v73 v74 first_75 run_76 =>
   ob (kfa 1 first_75) fun v77 =>
   ob (kload (J.h r69) v77) fun v78 =>
   ob (knil a_72) fun v79 =>
   ob (kfa 5 v79) fun v80 =>
   ob (kfa 4 v80) fun v81 =>
   ob (kload (J.h r69) v81) fun v82 =>
   ob (knil a_72) fun v83 =>
   ob (kfa 5 v83) fun v84 =>
   ob (kfa 5 v84) fun v85 =>
   ob (kload (J.h r69) v85) fun v86 =>
   ob (abuild Tryz.prog 194 [(0, v78), (2, v82), (3, v86)]) fun v87 =>
   ob (kloadN 2 (J.h r69) run_76) fun v88 =>
   ob (kstore 4 v73 v87 (J.h r69)) fun h89 =>
   kre (kloadN 2 h89 run_76) v88 (ob (kstore 2 v74 v88 h89) fun h90 =>
   (dleave (fun h91 => ob (kloadN 4 h91 v73) fun v92 => ob (kloadN 2 h91 v74) fun v93 => (some (false, (.tuple [v92, v93]), h91))) (J.ds r69) h90))])) (fun p64 h65 => none)]))
theorem F96_ok {S : FS} {D : FD} (hS : SpecsOK Tryz.prog S) (hD : DynOK Tryz.prog D) : SpecOK Tryz.prog 96 (F96 S D) :=
  SpecOK.of (c := match Tryz.f96.body with | some c => c | none => .skip) (by kernel_rfl) hS hD ⟨Tryz.func96, rfl, by decide⟩
    (.seq .n (.seq .n (.seq (.seq .n (.one (.loop [0, 3, 4, 5, 6, 23, 24, 25] [(.exit 0, [0, 3, 4, 5, 6])] (.seq .n (.seq (.dup .n .n) (.seq (.one (.seq .n .n)) .n)))))) (.seq .n (.seq (.seq .n (.seq .n (.join [(.norm, [0, 4, 5, 6, 9])] (.dup .n .n)))) (.seq .n .n)))))) 2 (fun args h => by kernel_rfl)
/-- roundhouse/ladder.Between -/
noncomputable def F97 (S : FS) (D : FD) (args : List AV) (h : Heap) : Option (Bool × AV × Heap) :=
 kv4 args fun p_1 r_2 from_3 to_4 =>
 knt p_1 (Heap.pushK h (.cells (AV.cells p_1) true 194) fun h5 =>
 knt r_2 (Heap.pushK h5 (.cells (AV.cells r_2) true 196) fun h6 =>
 ob (kloadN 4 h6 (.ptr (Heap.next h) 0)) fun v7 =>
 ob (kloadN 2 h6 (.ptr (Heap.next h5) 0)) fun v8 =>
 ob (S 139 [v7, v8] h6) fun r9 => kres r9 (fun v10 h11 =>
 ob (aun .not v10) fun v14 =>
 kif v14
  ((some (false, AV.nilslice, h11)))
  (ob (kloadN 4 h11 (.ptr (Heap.next h) 0)) fun v15 =>
  ob (kloadN 2 h11 (.ptr (Heap.next h5) 0)) fun v16 =>
  ob (S 140 [v15, v16] h11) fun r17 => kres r17 (fun v18 h19 =>
  ob (iterD (fun vs22 ds23 h24 => kv5 vs22 fun from_25 to_26 stages_27 v28 v29 =>
   ob (kbinI .lss v29 (.int .i64 (.ofNat 5))) fun v30 =>
   kif v30
    (ob (kixA 5 false 1 v28 v29) fun v31 =>
    ob (kbinI .gtr v31 from_25) fun v32 =>
    ob (kgv true v32 (some v31)) fun v33 =>
    ob (kgv true v32 (some to_26)) fun v34 =>
    ob (kgv true v32 (kbinI .leq v33 v34)) fun v35 =>
    ob (kpick v32 v35 (.bool false)) fun v36 =>
    ob (kif v36
     (ob (abuildSlice Tryz.prog 37 1 [(0, v29)]) fun r38 => Heap.pushK h24 (.cells r38.1 true r38.2.2) fun h39 =>
     ob (aappend Tryz.prog h39 37 37 stages_27 (.slice (Heap.next h24) 0 1 1 r38.2.1)) fun r40 =>
     (some ⟨0, [from_25, to_26, r40.1, v28, v29], ds23, r40.2⟩))
     ((some ⟨0, [from_25, to_26, stages_27, v28, v29], ds23, h24⟩))) fun r37 => kcase (J.i r37) [kv5 (J.vs r37) fun from_41 to_42 stages_43 v44 v45 =>
     ob (kbinI .add v45 (.int .i64 (.ofNat 1))) fun v46 =>
     (some ⟨0, [from_41, to_42, stages_43, v44, v46], (J.ds r37), (J.h r37)⟩)])
    ((some ⟨1, [stages_27], ds23, h24⟩))) rounds [from_3, to_4, AV.nilslice, v18, (.int .i64 (.ofNat 0))] [] h19) fun r47 => kcase (J.i r47) [kv1 (J.vs r47) fun stages_48 =>
   (dleave (fun h49 => (some (false, stages_48, h49))) (J.ds r47) (J.h r47))]) (fun p20 h21 => (some (true, p20, h21))))) (fun p12 h13 => (some (true, p12, h13)))))
theorem F97_ok {S : FS} {D : FD} (hS : SpecsOK Tryz.prog S) (hD : DynOK Tryz.prog D) : SpecOK Tryz.prog 97 (F97 S D) :=
  SpecOK.of (c := match Tryz.f97.body with | some c => c | none => .skip) (by kernel_rfl) hS hD ⟨Tryz.func97, rfl, by decide⟩
    (.seq .n (.seq (.seq .n (.dup (.seq .n .n) .n)) (.seq .n (.seq (.seq .n (.one (.loop [2, 3, 9, 18, 19] [(.exit 0, [9])] (.seq .n (.seq (.dup .n .n) (.seq (.one (.seq .n (.seq .n (.join [(.norm, [2, 3, 9, 18, 19])] (.dup .n .n))))) .n)))))) (.seq .n .n))))) 4 (fun args h => by kernel_rfl)
/-- (*roundhouse/agent.Agent).signal -/
noncomputable def F98 (S : FS) (D : FD) (args : List AV) (h : Heap) : Option (Bool × AV × Heap) :=
 kv3 args fun a_1 pids_2 sig_3 =>
 ob (klenL pids_2) fun v4 =>
 ob (iterD (fun vs5 ds6 h7 => kv5 vs5 fun a_8 sig_9 v10 v11 v12 =>
  ob (kbinI .lss v12 v11) fun v13 =>
  kif v13
   (ob (kia 1 v10 v12) fun v14 =>
   ob (kload h7 v14) fun v15 =>
   ob (knil a_8) fun v16 =>
   ob (kfa 0 v16) fun v17 =>
   ob (kfa 1 v17) fun v18 =>
   ob (kload h7 v18) fun v19 =>
   ob (S 141 [v19, v15, sig_9] h7) fun r20 => kres r20 (fun v21 h22 =>
   ob (kbinI .add v12 (.int .i64 (.ofNat 1))) fun v25 =>
   (some ⟨0, [a_8, sig_9, v10, v11, v25], ds6, h22⟩)) (fun p23 h24 => (some ⟨2, [p23], ds6, h24⟩)))
   ((some ⟨1, [], ds6, h7⟩))) rounds [a_1, sig_3, pids_2, v4, (.int .i64 (.ofNat 0))] [] h) fun r26 => kcase (J.i r26) [kv0 (J.vs r26) ((dleave (fun h27 => (some (false, (.tuple []), h27))) (J.ds r26) (J.h r26))),
 kv1 (J.vs r26) fun p28 => (kds (J.ds r26) (some (true, p28, (J.h r26))))]
theorem F98_ok {S : FS} {D : FD} (hS : SpecsOK Tryz.prog S) (hD : DynOK Tryz.prog D) : SpecOK Tryz.prog 98 (F98 S D) :=
  SpecOK.of (c := match Tryz.f98.body with | some c => c | none => .skip) (by kernel_rfl) hS hD ⟨Tryz.func98, rfl, by decide⟩
    (.seq .n (.one (.loop [0, 2, 8, 9, 10] [(.exit 0, []), (.pan, [])] (.seq .n (.seq (.dup .n .n) (.seq (.one (.seq .n .n)) .n)))))) 3 (fun args h => by kernel_rfl)
/-- (*roundhouse/ctl.job).messages -/
noncomputable def F99 (S : FS) (D : FD) (args : List AV) (h : Heap) : Option (Bool × AV × Heap) :=
 kv3 args fun x_1 key_2 now_3 =>
 ob (knil x_1) fun v4 =>
 ob (kfa 4 v4) fun v5 =>
 ob (kload h v5) fun v6 =>
 ob (kbinI .eql v6 (.int .i64 (.ofNat 0))) fun v7 =>
 kif v7
  ((some (false, (.bfunc 142 [x_1]), h)))
  (ob (kbinI .eql v6 (.int .i64 (.ofNat 1))) fun v8 =>
  kif v8
   (ob (S 143 [x_1, key_2, now_3] h) fun r9 => kres r9 (fun v10 h11 =>
   (some (false, v10, h11))) (fun p12 h13 => (some (true, p12, h13))))
   (ob (kbinI .eql v6 (.int .i64 (.ofNat 2))) fun v14 =>
   kif v14
    ((some (false, (.bfunc 144 [x_1]), h)))
    ((some (false, (.func 145 []), h)))))
theorem F99_ok {S : FS} {D : FD} (hS : SpecsOK Tryz.prog S) (hD : DynOK Tryz.prog D) : SpecOK Tryz.prog 99 (F99 S D) :=
  SpecOK.of (c := match Tryz.f99.body with | some c => c | none => .skip) (by kernel_rfl) hS hD ⟨Tryz.func99, rfl, by decide⟩
    (.seq .n (.seq (.seq .n (.one (.seq .n (.dup (.seq .n .n) (.seq .n (.dup (.seq .n .n) (.seq .n (.dup (.seq .n .n) .n)))))))) (.seq .n .n))) 3 (fun args h => by kernel_rfl)
/-- roundhouse/wire.Encode -/
noncomputable def F100 (S : FS) (D : FD) (args : List AV) (h : Heap) : Option (Bool × AV × Heap) :=
 kv1 args fun m_1 =>
 knt m_1 (Heap.pushK h (.cells (AV.cells m_1) true 205) fun h2 =>
 ob (kloadN 8 h2 (.ptr (Heap.next h) 0)) fun v3 =>
 ob (S 146 [v3] h2) fun r4 => kres r4 (fun v5 h6 =>
 ob (aun .not v5) fun v9 =>
 kif v9
  ((some (false, (.str 0 0), h6)))
  (Heap.pushK h6 (.cells [AV.nilptr, AV.nilslice] true 256) fun h10 =>
  ob (kfa 0 (.ptr (Heap.next h) 0)) fun v11 =>
  ob (kload h10 v11) fun v12 =>
  ob (kfa 1 (.ptr (Heap.next h) 0)) fun v13 =>
  ob (kload h10 v13) fun v14 =>
  ob (kbinI .add v14 (.int .i64 (.ofNat 1))) fun v15 =>
  ob (kfa 2 (.ptr (Heap.next h) 0)) fun v16 =>
  ob (kload h10 v16) fun v17 =>
  ob (kbinI .add v17 (.int .i64 (.ofNat 1))) fun v18 =>
  ob (kfa 3 (.ptr (Heap.next h) 0)) fun v19 =>
  ob (kload h10 v19) fun v20 =>
  ob (kfa 4 (.ptr (Heap.next h) 0)) fun v21 =>
  ob (kload h10 v21) fun v22 =>
  ob (kfa 5 (.ptr (Heap.next h) 0)) fun v23 =>
  ob (kload h10 v23) fun v24 =>
  ob (kfa 6 (.ptr (Heap.next h) 0)) fun v25 =>
  ob (kload h10 v25) fun v26 =>
  ob (abuild Tryz.prog 257 [(0, v12), (1, v15), (2, v18), (3, v20), (4, v22), (5, v24), (6, v26)]) fun v27 =>
  ob (iterD (fun vs28 ds29 h30 => kv4 vs28 fun m_31 out_32 v33 v34 =>
   ob (kbinI .lss v34 (.int .i64 (.ofNat 7))) fun v35 =>
   kif v35
    (ob (kixA 7 false 1 v33 v34) fun v36 =>
    ob (S 148 [v36] h30) fun r37 => kres r37 (fun v38 h39 =>
    ob (S 147 [out_32, v38] h39) fun r42 => kres r42 (fun v43 h44 =>
    ob (kbinI .add v34 (.int .i64 (.ofNat 1))) fun v47 =>
    (some ⟨0, [m_31, out_32, v33, v47], ds29, h44⟩)) (fun p45 h46 => (some ⟨2, [p45], ds29, h46⟩))) (fun p40 h41 => (some ⟨2, [p40], ds29, h41⟩)))
    ((some ⟨1, [m_31, out_32], ds29, h30⟩))) rounds [(.ptr (Heap.next h) 0), (.ptr (Heap.next h6) 0), v27, (.int .i64 (.ofNat 0))] [] h10) fun r48 => kcase (J.i r48) [kv2 (J.vs r48) fun m_49 out_50 =>
   ob (kfa 7 m_49) fun v51 =>
   ob (kload (J.h r48) v51) fun v52 =>
   ob (S 149 [out_50] (J.h r48)) fun r53 => kres r53 (fun v54 h55 =>
   kre (kload h55 v51) v52 (ob (S 150 [v52] h55) fun r58 => kres r58 (fun v59 h60 =>
   ob (kbinS .add v54 v59) fun v63 =>
   (dleave (fun h64 => (some (false, v63, h64))) (J.ds r48) h60)) (fun p61 h62 => (kds (J.ds r48) (some (true, p61, h62)))))) (fun p56 h57 => none),
  kv1 (J.vs r48) fun p65 => (kds (J.ds r48) (some (true, p65, (J.h r48))))])) (fun p7 h8 => (some (true, p7, h8))))
theorem F100_ok {S : FS} {D : FD} (hS : SpecsOK Tryz.prog S) (hD : DynOK Tryz.prog D) : SpecOK Tryz.prog 100 (F100 S D) :=
  SpecOK.of (c := match Tryz.f100.body with | some c => c | none => .skip) (by kernel_rfl) hS hD ⟨Tryz.func100, rfl, by decide⟩
    (.seq .n (.seq (.seq .n (.dup (.seq .n .n) .n)) (.seq .n (.seq (.seq .n (.one (.loop [1, 3, 25, 26] [(.exit 0, [1, 3]), (.pan, [])] (.seq .n (.seq (.dup .n .n) (.seq (.one (.seq .n .n)) .n)))))) (.seq .n .n))))) 1 (fun args h => by kernel_rfl)
/-- (*roundhouse/net.Net).Take -/
noncomputable def F101 (S : FS) (D : FD) (args : List AV) (h : Heap) : Option (Bool × AV × Heap) :=
 kv2 args fun n_1 i_2 =>
 ob (S 105 [n_1, i_2] h) fun r3 => kres r3 (fun v4 h5 =>
 ob (kbinI .lss v4 (.int .i64 (.ofNat 0))) fun v8 =>
 kif v8
  ((some (false, (.tuple [(.str 0 0), (.bool false)]), h5)))
  (ob (knil n_1) fun v9 =>
  ob (kfa 2 v9) fun v10 =>
  ob (kload h5 v10) fun v11 =>
  ob (S 151 [v11, v4] h5) fun r12 => kres r12 (fun v13 h14 =>
  ob (aextract v13 0) fun v17 =>
  ob (aextract v13 1) fun v18 =>
  ob (knil n_1) fun v19 =>
  ob (kfa 2 v19) fun v20 =>
  ob (kstore 1 v20 v17 h14) fun h21 =>
  (some (false, (.tuple [v18, (.bool true)]), h21))) (fun p15 h16 => (some (true, p15, h16))))) (fun p6 h7 => (some (true, p6, h7)))
theorem F101_ok {S : FS} {D : FD} (hS : SpecsOK Tryz.prog S) (hD : DynOK Tryz.prog D) : SpecOK Tryz.prog 101 (F101 S D) :=
  SpecOK.of (c := match Tryz.f101.body with | some c => c | none => .skip) (by kernel_rfl) hS hD ⟨Tryz.func101, rfl, by decide⟩
    (.seq .n (.seq .n (.seq (.seq .n (.dup (.seq .n .n) .n)) (.seq .n (.seq .n (.seq .n .n)))))) 2 (fun args h => by kernel_rfl)
/-- roundhouse/wire.Decode -/
noncomputable def F102 (S : FS) (D : FD) (args : List AV) (h : Heap) : Option (Bool × AV × Heap) :=
 kv1 args fun s_1 =>
 Heap.pushK h (.cells [(.int .i64 (.ofNat 0)), (.int .i64 (.ofNat 0)), (.int .i64 (.ofNat 0)), (.int .i64 (.ofNat 0)), (.int .i64 (.ofNat 0)), (.int .i64 (.ofNat 0)), (.int .i64 (.ofNat 0)), (.str 0 0)] true 205) fun h2 =>
 ob (S 77 [s_1] h2) fun r3 => kres r3 (fun v4 h5 =>
 ob (S 78 [v4] h5) fun r8 => kres r8 (fun v9 h10 =>
 ob (S 78 [v4] h10) fun r13 => kres r13 (fun v14 h15 =>
 ob (kbinI .sub v14 (.int .i64 (.ofNat 1))) fun v18 =>
 ob (S 78 [v4] h15) fun r19 => kres r19 (fun v20 h21 =>
 ob (kbinI .sub v20 (.int .i64 (.ofNat 1))) fun v24 =>
 ob (S 78 [v4] h21) fun r25 => kres r25 (fun v26 h27 =>
 ob (S 78 [v4] h27) fun r30 => kres r30 (fun v31 h32 =>
 ob (S 78 [v4] h32) fun r35 => kres r35 (fun v36 h37 =>
 ob (S 78 [v4] h37) fun r40 => kres r40 (fun v41 h42 =>
 ob (S 152 [v4] h42) fun r45 => kres r45 (fun v46 h47 =>
 ob (abuild Tryz.prog 205 [(0, v9), (1, v18), (2, v24), (3, v26), (4, v31), (5, v36), (6, v41), (7, v46)]) fun v50 =>
 Heap.pushK h47 (.cells [(.int .i64 (.ofNat 0)), (.int .i64 (.ofNat 0)), (.int .i64 (.ofNat 0)), (.int .i64 (.ofNat 0)), (.int .i64 (.ofNat 0)), (.int .i64 (.ofNat 0)), (.int .i64 (.ofNat 0)), (.str 0 0)] true 205) fun h51 =>
 ob (kstore 8 (.ptr (Heap.next h47) 0) v50 h51) fun h52 =>
 ob (S 80 [v4] h52) fun r53 => kres r53 (fun v54 h55 =>
 ob (aextract v54 0) fun v58 =>
 ob (aextract v54 1) fun v59 =>
 ob (kbinI .neq v58 (.int .i64 (.ofNat 0))) fun v60 =>
 kif v60
  (ob (abuild Tryz.prog 205 []) fun v61 =>
  ob (kstore 8 (.ptr (Heap.next h) 0) v61 h55) fun h62 =>
  ob (kloadN 8 h62 (.ptr (Heap.next h) 0)) fun v63 => (some (false, (.tuple [v63, v58]), h62)))
  (ob (kloadN 8 h55 (.ptr (Heap.next h47) 0)) fun v64 =>
  ob (S 146 [v64] h55) fun r65 => kres r65 (fun v66 h67 =>
  ob (aun .not v66) fun v70 =>
  kif v70
   (ob (abuild Tryz.prog 205 []) fun v71 =>
   ob (kstore 8 (.ptr (Heap.next h) 0) v71 h67) fun h72 =>
   ob (kloadN 8 h72 (.ptr (Heap.next h) 0)) fun v73 => (some (false, (.tuple [v73, (.int .i64 (.ofNat 5))]), h72)))
   (ob (kloadN 8 h67 (.ptr (Heap.next h47) 0)) fun v74 =>
   ob (kstore 8 (.ptr (Heap.next h) 0) v74 h67) fun h75 =>
   ob (kloadN 8 h75 (.ptr (Heap.next h) 0)) fun v76 => (some (false, (.tuple [v76, (.int .i64 (.ofNat 0))]), h75)))) (fun p68 h69 => (some (true, p68, h69))))) (fun p56 h57 => (some (true, p56, h57)))) (fun p48 h49 => (some (true, p48, h49)))) (fun p43 h44 => (some (true, p43, h44)))) (fun p38 h39 => (some (true, p38, h39)))) (fun p33 h34 => (some (true, p33, h34)))) (fun p28 h29 => (some (true, p28, h29)))) (fun p22 h23 => (some (true, p22, h23)))) (fun p16 h17 => (some (true, p16, h17)))) (fun p11 h12 => (some (true, p11, h12)))) (fun p6 h7 => (some (true, p6, h7)))
theorem F102_ok {S : FS} {D : FD} (hS : SpecsOK Tryz.prog S) (hD : DynOK Tryz.prog D) : SpecOK Tryz.prog 102 (F102 S D) :=
  SpecOK.of (c := match Tryz.f102.body with | some c => c | none => .skip) (by kernel_rfl) hS hD ⟨Tryz.func102, rfl, by decide⟩
    (.seq .n (.seq .n (.seq .n (.seq (.seq .n (.seq .n (.dup (.seq .n .n) .n))) (.seq (.seq .n (.dup (.seq .n .n) .n)) (.seq .n .n)))))) 1 (fun args h => by kernel_rfl)
/-- (*roundhouse/ctl.Ctl).Deliver -/
noncomputable def F103 (S : FS) (D : FD) (args : List AV) (h : Heap) : Option (Bool × AV × Heap) :=
 kv2 args fun c_1 s_2 =>
 ob (S 102 [s_2] h) fun r3 => kres r3 (fun v4 h5 =>
 ob (aextract v4 0) fun v8 =>
 ob (aextract v4 1) fun v9 =>
 Heap.pushK h5 (.cells [(.int .i64 (.ofNat 0)), (.int .i64 (.ofNat 0)), (.int .i64 (.ofNat 0)), (.int .i64 (.ofNat 0)), (.int .i64 (.ofNat 0)), (.int .i64 (.ofNat 0)), (.int .i64 (.ofNat 0)), (.str 0 0)] true 205) fun h10 =>
 ob (kstore 8 (.ptr (Heap.next h5) 0) v8 h10) fun h11 =>
 ob (kfa 3 (.ptr (Heap.next h5) 0)) fun v12 =>
 ob (kload h11 v12) fun v13 =>
 ob (S 32 [c_1, v13] h11) fun r14 => kres r14 (fun v15 h16 =>
 ob (kbinI .neq v9 (.int .i64 (.ofNat 0))) fun v19 =>
 ob (kgv false v19 (some v15)) fun v20 =>
 ob (kgv false v19 (kbinO Tryz.prog .eql 106 true v20 AV.nilptr)) fun v21 =>
 ob (kpick v19 (.bool true) v21) fun v22 =>
 ob (kgv false v22 (kfa 2 (.ptr (Heap.next h5) 0))) fun v23 =>
 ob (kgv false v22 (kload h16 v23)) fun v24 =>
 ob (kgv false v22 (kbinI .neq v24 (.int .i64 (.negSucc 0)))) fun v25 =>
 ob (kpick v22 (.bool true) v25) fun v26 =>
 ob (kgv false v26 (kfa 4 (.ptr (Heap.next h5) 0))) fun v27 =>
 ob (kgv false v26 (kload h16 v27)) fun v28 =>
 ob (kgv false v26 (some v15)) fun v29 =>
 ob (kgv false v26 (knil v29)) fun v30 =>
 ob (kgv false v26 (kfa 3 v30)) fun v31 =>
 ob (kgv false v26 (kload h16 v31)) fun v32 =>
 ob (kgv false v26 (kbinI .neq v28 v32)) fun v33 =>
 ob (kpick v26 (.bool true) v33) fun v34 =>
 ob (kgv false v34 (some v15)) fun v35 =>
 ob (kgv false v34 (knil v35)) fun v36 =>
 ob (kgv false v34 (kfa 0 v36)) fun v37 =>
 ob (kgv false v34 (kfa 0 v37)) fun v38 =>
 ob (kgv false v34 (kload h16 v38)) fun v39 =>
 ob (kgv false v34 (kfa 1 (.ptr (Heap.next h5) 0))) fun v40 =>
 ob (kgv false v34 (kload h16 v40)) fun v41 =>
 ob (kgc false v34 h16 (S 153 [v39, v41] h16)) fun r42 => kres r42 (fun v43 h44 =>
 ob (kgv false v34 (aun .not v43)) fun v47 =>
 ob (kpick v34 (.bool true) v47) fun v48 =>
 kif v48
  ((some (false, (.bool false), h44)))
  (ob (kfa 0 (.ptr (Heap.next h5) 0)) fun v49 =>
  ob (kload h44 v49) fun v50 =>
  ob (kbinI .eql v50 (.int .i64 (.ofNat 1))) fun v51 =>
  ob (kgv true v51 (some v15)) fun v52 =>
  ob (kgv true v51 (knil v52)) fun v53 =>
  ob (kgv true v51 (kfa 4 v53)) fun v54 =>
  ob (kgv true v51 (kload h44 v54)) fun v55 =>
  ob (kgv true v51 (kbinI .eql v55 (.int .i64 (.ofNat 0)))) fun v56 =>
  ob (kpick v51 v56 (.bool false)) fun v57 =>
  ob (kif v57
   (ob (kfa 1 (.ptr (Heap.next h5) 0)) fun v59 =>
   ob (kload h44 v59) fun v60 =>
   ob (kfa 6 (.ptr (Heap.next h5) 0)) fun v61 =>
   ob (kload h44 v61) fun v62 =>
   ob (S 154 [v15, v60, v62] h44) fun r63 => kres r63 (fun v64 h65 =>
   (some ⟨0, [], [], h65⟩)) (fun p66 h67 => (some ⟨2, [p66], [], h67⟩)))
   (ob (kfa 0 (.ptr (Heap.next h5) 0)) fun v68 =>
   ob (kload h44 v68) fun v69 =>
   ob (kbinI .eql v69 (.int .i64 (.ofNat 3))) fun v70 =>
   ob (kgv false v70 (kfa 0 (.ptr (Heap.next h5) 0))) fun v71 =>
   ob (kgv false v70 (kload h44 v71)) fun v72 =>
   ob (kgv false v70 (kbinI .eql v72 (.int .i64 (.ofNat 6)))) fun v73 =>
   ob (kpick v70 (.bool true) v73) fun v74 =>
   ob (kgv true v74 (some v15)) fun v75 =>
   ob (kgv true v74 (knil v75)) fun v76 =>
   ob (kgv true v74 (kfa 4 v76)) fun v77 =>
   ob (kgv true v74 (kload h44 v77)) fun v78 =>
   ob (kgv true v74 (kbinI .eql v78 (.int .i64 (.ofNat 1)))) fun v79 =>
   ob (kpick v74 v79 (.bool false)) fun v80 =>
   kif v80
    (ob (kloadN 8 h44 (.ptr (Heap.next h5) 0)) fun v81 =>
    ob (S 155 [v15, v81] h44) fun r82 => kres r82 (fun v83 h84 =>
    (some ⟨1, [v83], [], h84⟩)) (fun p85 h86 => (some ⟨2, [p85], [], h86⟩)))
    (ob (kfa 0 (.ptr (Heap.next h5) 0)) fun v87 =>
    ob (kload h44 v87) fun v88 =>
    ob (kbinI .eql v88 (.int .i64 (.ofNat 9))) fun v89 =>
    ob (kgv true v89 (some v15)) fun v90 =>
    ob (kgv true v89 (knil v90)) fun v91 =>
    ob (kgv true v89 (kfa 4 v91)) fun v92 =>
    ob (kgv true v89 (kload h44 v92)) fun v93 =>
    ob (kgv true v89 (kbinI .eql v93 (.int .i64 (.ofNat 2)))) fun v94 =>
    ob (kpick v89 v94 (.bool false)) fun v95 =>
    kif v95
     (ob (kfa 1 (.ptr (Heap.next h5) 0)) fun v96 =>
     ob (kload h44 v96) fun v97 =>
     ob (S 156 [v15, v97] h44) fun r98 => kres r98 (fun v99 h100 =>
     (some ⟨0, [], [], h100⟩)) (fun p101 h102 => (some ⟨2, [p101], [], h102⟩)))
     ((some ⟨1, [(.bool false)], [], h44⟩))))) fun r58 => kcase (J.i r58) [kv0 (J.vs r58) ((dleave (fun h103 => (some (false, (.bool true), h103))) (J.ds r58) (J.h r58))),
  kv1 (J.vs r58) fun v104 =>
   (dleave (fun h105 => (some (false, v104, h105))) (J.ds r58) (J.h r58)),
  kv1 (J.vs r58) fun p106 => (kds (J.ds r58) (some (true, p106, (J.h r58))))])) (fun p45 h46 => (some (true, p45, h46)))) (fun p17 h18 => (some (true, p17, h18)))) (fun p6 h7 => (some (true, p6, h7)))
theorem F103_ok {S : FS} {D : FD} (hS : SpecsOK Tryz.prog S) (hD : DynOK Tryz.prog D) : SpecOK Tryz.prog 103 (F103 S D) :=
  SpecOK.of (c := match Tryz.f103.body with | some c => c | none => .skip) (by kernel_rfl) hS hD ⟨Tryz.func103, rfl, by decide⟩
    (.seq .n (.seq .n (.seq .n (.seq (.seq .n (.dup (.seq .n .n) .n)) (.seq (.one (.seq .n (.join [(.norm, []), (.ret, [4]), (.pan, [])] (.dup .n (.seq .n (.dup (.seq .n .n) (.seq .n (.dup .n (.seq .n .n))))))))) (.seq .n .n)))))) 2 (fun args h => by kernel_rfl)
/-- (*roundhouse/agent.Agent).Deliver -/
noncomputable def F104 (S : FS) (D : FD) (args : List AV) (h : Heap) : Option (Bool × AV × Heap) :=
 kv3 args fun a_1 s_2 c_3 =>
 knt c_3 (Heap.pushK h (.cells (AV.cells c_3) true 154) fun h4 =>
 ob (S 102 [s_2] h4) fun r5 => kres r5 (fun v6 h7 =>
 ob (aextract v6 0) fun v10 =>
 ob (aextract v6 1) fun v11 =>
 Heap.pushK h7 (.cells [(.int .i64 (.ofNat 0)), (.int .i64 (.ofNat 0)), (.int .i64 (.ofNat 0)), (.int .i64 (.ofNat 0)), (.int .i64 (.ofNat 0)), (.int .i64 (.ofNat 0)), (.int .i64 (.ofNat 0)), (.str 0 0)] true 205) fun h12 =>
 ob (kstore 8 (.ptr (Heap.next h7) 0) v10 h12) fun h13 =>
 ob (S 10 [a_1] h13) fun r14 => kres r14 (fun v15 h16 =>
 ob (kgv false v15 (some v11)) fun v19 =>
 ob (kgv false v15 (kbinI .neq v19 (.int .i64 (.ofNat 0)))) fun v20 =>
 ob (kpick v15 (.bool true) v20) fun v21 =>
 kif v21
  ((some (false, AV.nilslice, h16)))
  (Heap.pushK h16 (.cells [(.int .i64 (.ofNat 0)), AV.nilslice, (.int .i64 (.ofNat 0)), (.bool false)] true 268) fun h22 =>
  ob (kfa 2 (.ptr (Heap.next h7) 0)) fun v23 =>
  ob (kload h22 v23) fun v24 =>
  ob (knil a_1) fun v25 =>
  ob (kfa 5 v25) fun v26 =>
  ob (kfa 0 v26) fun v27 =>
  ob (kload h22 v27) fun v28 =>
  ob (kbinI .eql v24 v28) fun v29 =>
  ob (kgv true v29 (some a_1)) fun v30 =>
  ob (kgv true v29 (knil v30)) fun v31 =>
  ob (kgv true v29 (kfa 12 v31)) fun v32 =>
  ob (kgv true v29 (kloadN 3 h22 v32)) fun v33 =>
  ob (kgv true v29 (kloadN 8 h22 (.ptr (Heap.next h7) 0))) fun v34 =>
  ob (kgc true v29 h22 (S 157 [v33, v34] h22)) fun r35 => kres r35 (fun v36 h37 =>
  ob (kpick v29 v36 (.bool false)) fun v40 =>
  ob (kif v40
   (ob (kloadN 8 h37 (.ptr (Heap.next h7) 0)) fun v42 =>
   ob (kfa 1 (.ptr (Heap.next h) 0)) fun v43 =>
   ob (kload h37 v43) fun v44 =>
   ob (S 158 [a_1, v42, v44] h37) fun r45 => kres r45 (fun v46 h47 =>
   ob (kstore 4 (.ptr (Heap.next h16) 0) v46 h47) fun h50 =>
   (some ⟨0, [a_1, (.ptr (Heap.next h) 0), (.ptr (Heap.next h7) 0), (.ptr (Heap.next h16) 0)], [], h50⟩)) (fun p48 h49 => (some ⟨1, [p48], [], h49⟩)))
   ((some ⟨0, [a_1, (.ptr (Heap.next h) 0), (.ptr (Heap.next h7) 0), (.ptr (Heap.next h16) 0)], [], h37⟩))) fun r41 => kcase (J.i r41) [kv4 (J.vs r41) fun a_51 c_52 m_53 f_54 =>
   ob (kfa 0 c_52) fun v55 =>
   ob (kload (J.h r41) v55) fun v56 =>
   ob (kloadN 8 (J.h r41) m_53) fun v57 =>
   ob (kfa 2 f_54) fun v58 =>
   ob (S 159 [a_51, v57] (J.h r41)) fun r59 => kres r59 (fun v60 h61 =>
   kre (kload h61 v55) v56 (ob (kstore 1 v58 v56 h61) fun h64 =>
   ob (kfa 3 f_54) fun v65 =>
   ob (kstore 1 v65 v60 h64) fun h66 =>
   ob (kfa 2 f_54) fun v67 =>
   ob (kload h66 v67) fun v68 =>
   ob (S 54 [v68, (.int .i64 (.ofNat 0)), (.int .i64 (.ofNat 255))] h66) fun r69 => kres r69 (fun v70 h71 =>
   ob (aun .not v70) fun v74 =>
   ob (kif v74
    (ob (kfa 2 f_54) fun v76 =>
    ob (kstore 1 v76 (.int .i64 (.ofNat 1)) h71) fun h77 =>
    (some ⟨0, [a_51, c_52, m_53, f_54], (J.ds r41), h77⟩))
    ((some ⟨0, [a_51, c_52, m_53, f_54], (J.ds r41), h71⟩))) fun r75 => kcase (J.i r75) [kv4 (J.vs r75) fun a_78 c_79 m_80 f_81 =>
    ob (knil a_78) fun v82 =>
    ob (kfa 5 v82) fun v83 =>
    ob (kfa 0 v83) fun v84 =>
    ob (kload (J.h r75) v84) fun v85 =>
    ob (knil a_78) fun v86 =>
    ob (kfa 12 v86) fun v87 =>
    ob (kloadN 3 (J.h r75) v87) fun v88 =>
    ob (kloadN 8 (J.h r75) m_80) fun v89 =>
    ob (kloadN 4 (J.h r75) f_81) fun v90 =>
    kfree (J.h r75) (Heap.pushK (J.h r75) (.cells [(.bool false), (.int .i64 (.ofNat 0)), (.int .i64 (.ofNat 0)), (.int .i64 (.ofNat 0)), (.int .i64 (.ofNat 0)), (.int .i64 (.ofNat 0)), AV.nilslice, (.bool false), (.int .i64 (.ofNat 0)), (.int .i64 (.ofNat 0)), (.int .i64 (.ofNat 0)), (.int .i64 (.ofNat 0)), (.int .i64 (.ofNat 0)), (.int .i64 (.ofNat 0)), (.int .i64 (.ofNat 0)), (.str 0 0), (.bool false), (.bool false), (.bool false)] true 272) fun h91 =>
    ob (S 160 [v85, v88, v89, v90] h91) fun r92 => kres r92 (fun v93 h94 =>
    kro (Heap.next (J.h r75)) h91 h94 (ob (aextract v93 0) fun v97 =>
    ob (aextract v93 1) fun v98 =>
    ob (kstore 19 (.ptr (Heap.next (J.h r75)) 0) v97 h94) fun h99 =>
    ob (kbinI .neq v98 (.int .i64 (.ofNat 0))) fun v100 =>
    ob (kgv false v100 (kfa 0 (.ptr (Heap.next (J.h r75)) 0))) fun v101 =>
    ob (kgv false v100 (kload h99 v101)) fun v102 =>
    ob (kgv false v100 (some v102)) fun v103 =>
    ob (kgv true v103 (some a_78)) fun v104 =>
    ob (kgv true v103 (kfa 1 (.ptr (Heap.next (J.h r75)) 0))) fun v105 =>
    ob (kgv true v103 (kloadN 6 h99 v105)) fun v106 =>
    ob (kgv true v103 (kfa 2 c_79)) fun v107 =>
    ob (kgv true v103 (kload h99 v107)) fun v108 =>
    ob (kgc true v103 h99 (S 161 [v104, v106, v108] h99)) fun r109 => kres r109 (fun v110 h111 =>
    ob (kgv true v103 (aun .not v110)) fun v114 =>
    ob (kgv false v100 (kpick v103 v114 (.bool false))) fun v115 =>
    ob (kpick v100 (.bool true) v115) fun v116 =>
    kif v116
     ((dleave (fun h117 => (some (false, AV.nilslice, h117))) (J.ds r75) h111))
     (ob (kloadN 19 h111 (.ptr (Heap.next (J.h r75)) 0)) fun v118 =>
     ob (kloadN 8 h111 m_80) fun v119 =>
     ob (S 162 [a_78, v118, v119] h111) fun r120 => kres r120 (fun v121 h122 =>
     ob (kloadN 19 h122 (.ptr (Heap.next (J.h r75)) 0)) fun v125 =>
     ob (S 163 [v125] h122) fun r126 => kres r126 (fun v127 h128 =>
     (dleave (fun h131 => (some (false, v127, h131))) (J.ds r75) h128)) (fun p129 h130 => (kds (J.ds r75) (some (true, p129, h130))))) (fun p123 h124 => (kds (J.ds r75) (some (true, p123, h124)))))) (fun p112 h113 => (kds (J.ds r75) (some (true, p112, h113)))))) (fun p95 h96 => none))]) (fun p72 h73 => (kds (J.ds r41) (some (true, p72, h73)))))) (fun p62 h63 => none),
  kv1 (J.vs r41) fun p132 => (kds (J.ds r41) (some (true, p132, (J.h r41))))]) (fun p38 h39 => (some (true, p38, h39))))) (fun p17 h18 => (some (true, p17, h18)))) (fun p8 h9 => (some (true, p8, h9))))
theorem F104_ok {S : FS} {D : FD} (hS : SpecsOK Tryz.prog S) (hD : DynOK Tryz.prog D) : SpecOK Tryz.prog 104 (F104 S D) :=
  SpecOK.of (c := match Tryz.f104.body with | some c => c | none => .skip) (by kernel_rfl) hS hD ⟨Tryz.func104, rfl, by decide⟩
    (.seq .n (.seq .n (.seq (.seq .n (.dup (.seq .n .n) .n)) (.seq .n (.seq (.seq .n (.join [(.norm, [0, 5, 7, 9]), (.pan, [])] (.dup .n .n))) (.seq .n (.seq (.seq .n (.join [(.norm, [0, 5, 7, 9])] (.dup .n .n))) (.seq .n (.seq (.seq .n (.dup (.seq .n .n) .n)) (.seq .n (.seq .n .n))))))))))) 3 (fun args h => by kernel_rfl)
/-- (*roundhouse/net.Net).place -/
noncomputable def F105 (S : FS) (D : FD) (args : List AV) (h : Heap) : Option (Bool × AV × Heap) :=
 kv2 args fun n_1 i_2 =>
 ob (kbinO Tryz.prog .eql 99 true n_1 AV.nilptr) fun v3 =>
 ob (kgv false v3 (some n_1)) fun v4 =>
 ob (kgv false v3 (knil v4)) fun v5 =>
 ob (kgv false v3 (kfa 2 v5)) fun v6 =>
 ob (kgv false v3 (kload h v6)) fun v7 =>
 ob (kgv false v3 (klenL v7)) fun v8 =>
 ob (kgv false v3 (kbinI .eql v8 (.int .i64 (.ofNat 0)))) fun v9 =>
 ob (kpick v3 (.bool true) v9) fun v10 =>
 kif v10
  ((some (false, (.int .i64 (.negSucc 0)), h)))
  (ob (knil n_1) fun v11 =>
  ob (kfa 2 v11) fun v12 =>
  ob (kload h v12) fun v13 =>
  ob (klenL v13) fun v14 =>
  ob (kbinI .rem i_2 v14) fun v15 =>
  ob (kbinI .lss v15 (.int .i64 (.ofNat 0))) fun v16 =>
  ob (kif v16
   (ob (knil n_1) fun v18 =>
   ob (kfa 2 v18) fun v19 =>
   ob (kload h v19) fun v20 =>
   ob (klenL v20) fun v21 =>
   ob (kbinI .add v15 v21) fun v22 =>
   (some ⟨0, [v22], [], h⟩))
   ((some ⟨0, [v15], [], h⟩))) fun r17 => kcase (J.i r17) [kv1 (J.vs r17) fun at_23 =>
   (dleave (fun h24 => (some (false, at_23, h24))) (J.ds r17) (J.h r17))])
theorem F105_ok {S : FS} {D : FD} (hS : SpecsOK Tryz.prog S) (hD : DynOK Tryz.prog D) : SpecOK Tryz.prog 105 (F105 S D) :=
  SpecOK.of (c := match Tryz.f105.body with | some c => c | none => .skip) (by kernel_rfl) hS hD ⟨Tryz.func105, rfl, by decide⟩
    (.seq .n (.seq (.seq .n (.dup (.seq .n .n) .n)) (.seq .n (.seq (.seq .n (.join [(.norm, [5])] (.dup .n .n))) (.seq .n .n))))) 2 (fun args h => by kernel_rfl)
/-- slices.DeleteFunc[[]roundhouse/api.Task,roundhouse/api.Task] -/
noncomputable def F106 (S : FS) (D : FD) (args : List AV) (h : Heap) : Option (Bool × AV × Heap) :=
 kv2 args fun s_1 del_2 =>
 ob (S 164 [s_1, del_2] h) fun r3 => kres r3 (fun v4 h5 =>
 ob (kbinI .eql v4 (.int .i64 (.negSucc 0))) fun v8 =>
 kif v8
  ((some (false, s_1, h5)))
  (ob (kbinI .add v4 (.int .i64 (.ofNat 1))) fun v9 =>
  ob (iterD (fun vs10 ds11 h12 => kv4 vs10 fun s_13 del_14 i_15 j_16 =>
   ob (klenL s_13) fun v17 =>
   ob (kbinI .lss j_16 v17) fun v18 =>
   kif v18
    (ob (kia 8 s_13 j_16) fun v19 =>
    ob (kloadN 8 h12 v19) fun v20 =>
    Heap.pushK h12 (.cells [(.int .i64 (.ofNat 0)), (.int .i64 (.ofNat 0)), (.int .i64 (.ofNat 0)), (.int .i64 (.ofNat 0)), (.int .i64 (.ofNat 0)), AV.nilslice, (.int .i64 (.ofNat 0)), (.int .i64 (.ofNat 0))] true 92) fun h21 =>
    ob (kstore 8 (.ptr (Heap.next h12) 0) v20 h21) fun h22 =>
    ob (kloadN 8 h22 (.ptr (Heap.next h12) 0)) fun v23 =>
    ob (D del_14 [v23] h22) fun r24 => kres r24 (fun v25 h26 =>
    ob (aun .not v25) fun v29 =>
    ob (kif v29
     (ob (kloadN 8 h26 (.ptr (Heap.next h12) 0)) fun v31 =>
     ob (kia 8 s_13 i_15) fun v32 =>
     ob (kstore 8 v32 v31 h26) fun h33 =>
     ob (kbinI .add i_15 (.int .i64 (.ofNat 1))) fun v34 =>
     (some ⟨0, [s_13, del_14, v34, j_16], ds11, h33⟩))
     ((some ⟨0, [s_13, del_14, i_15, j_16], ds11, h26⟩))) fun r30 => kcase (J.i r30) [kv4 (J.vs r30) fun s_35 del_36 i_37 j_38 =>
     ob (kbinI .add j_38 (.int .i64 (.ofNat 1))) fun v39 =>
     (some ⟨0, [s_35, del_36, i_37, v39], (J.ds r30), (J.h r30)⟩)]) (fun p27 h28 => (some ⟨2, [p27], ds11, h28⟩)))
    ((some ⟨1, [s_13, i_15], ds11, h12⟩))) rounds [s_1, del_2, v4, v9] [] h5) fun r40 => kcase (J.i r40) [kv2 (J.vs r40) fun s_41 i_42 =>
   ob (aslice Tryz.prog 89 s_41 (some i_42) none none) fun v43 =>
   ob (aclear Tryz.prog (J.h r40) 89 v43) fun h44 =>
   ob (aslice Tryz.prog 89 s_41 none (some i_42) none) fun v45 =>
   (dleave (fun h46 => (some (false, v45, h46))) (J.ds r40) h44),
  kv1 (J.vs r40) fun p47 => (kds (J.ds r40) (some (true, p47, (J.h r40))))])) (fun p6 h7 => (some (true, p6, h7)))
theorem F106_ok {S : FS} {D : FD} (hS : SpecsOK Tryz.prog S) (hD : DynOK Tryz.prog D) : SpecOK Tryz.prog 106 (F106 S D) :=
  SpecOK.of (c := match Tryz.f106.body with | some c => c | none => .skip) (by kernel_rfl) hS hD ⟨Tryz.func106, rfl, by decide⟩
    (.seq .n (.seq .n (.seq (.seq .n (.dup (.seq .n .n) .n)) (.seq (.seq .n (.one (.loop [0, 1, 5, 6] [(.exit 0, [0, 5]), (.pan, [])] (.seq (.seq .n (.dup .n .n)) (.seq (.one (.seq .n (.seq .n (.join [(.norm, [0, 1, 5, 6])] (.dup (.seq .n .n) .n))))) .n))))) (.seq .n (.seq .n .n)))))) 2 (fun args h => by kernel_rfl)
/-- (*roundhouse/world.World).exit$1 -/
noncomputable def F107 (S : FS) (D : FD) (args : List AV) (h : Heap) : Option (Bool × AV × Heap) :=
 kv1 args fun x_1 =>
 knt x_1 (Heap.pushK h (.cells (AV.cells x_1) true 92) fun h2 =>
 ob (kfa 6 (.ptr (Heap.next h) 0)) fun v3 =>
 ob (kload h2 v3) fun v4 =>
 ob (kbinI .neq v4 (.int .i64 (.ofNat 1))) fun v5 =>
 (some (false, v5, h2)))
theorem F107_ok {S : FS} {D : FD} (hS : SpecsOK Tryz.prog S) (hD : DynOK Tryz.prog D) : SpecOK Tryz.prog 107 (F107 S D) :=
  SpecOK.of (c := match Tryz.f107.body with | some c => c | none => .skip) (by kernel_rfl) hS hD ⟨Tryz.func107, rfl, by decide⟩
    (.seq .n (.seq .n .n)) 1 (fun args h => by kernel_rfl)
/-- (*roundhouse/agent.Agent).Exit -/
noncomputable def F108 (S : FS) (D : FD) (args : List AV) (h : Heap) : Option (Bool × AV × Heap) :=
 kv4 args fun a_1 pid_2 code_3 tear_4 =>
 ob (S 10 [a_1] h) fun r5 => kres r5 (fun v6 h7 =>
 ob (kgv false v6 (some a_1)) fun v10 =>
 ob (kgv false v6 (knil v10)) fun v11 =>
 ob (kgv false v6 (kfa 0 v11)) fun v12 =>
 ob (kgv false v6 (kfa 1 v12)) fun v13 =>
 ob (kgv false v6 (kload h7 v13)) fun v14 =>
 ob (kgv false v6 (some pid_2)) fun v15 =>
 ob (kgv false v6 (some code_3)) fun v16 =>
 ob (kgc false v6 h7 (S 165 [v14, v15, v16] h7)) fun r17 => kres r17 (fun v18 h19 =>
 ob (kgv false v6 (kbinI .neq v18 (.int .i64 (.ofNat 0)))) fun v22 =>
 ob (kpick v6 (.bool true) v22) fun v23 =>
 kif v23
  ((some (false, AV.nilslice, h19)))
  (ob (abuildSlice Tryz.prog 37 1 [(0, pid_2)]) fun r24 => Heap.pushK h19 (.cells r24.1 true r24.2.2) fun h25 =>
  ob (S 166 [a_1, (.slice (Heap.next h19) 0 1 1 r24.2.1)] h25) fun r26 => kres r26 (fun v27 h28 =>
  ob (kia 8 v27 (.int .i64 (.ofNat 0))) fun v31 =>
  ob (kloadN 8 h28 v31) fun v32 =>
  Heap.pushK h28 (.cells [(.int .i64 (.ofNat 0)), (.int .i64 (.ofNat 0)), (.int .i64 (.ofNat 0)), (.int .i64 (.ofNat 0)), (.int .i64 (.ofNat 0)), AV.nilslice, (.int .i64 (.ofNat 0)), (.int .i64 (.ofNat 0))] true 92) fun h33 =>
  ob (kstore 8 (.ptr (Heap.next h28) 0) v32 h33) fun h34 =>
  ob (kloadN 8 h34 (.ptr (Heap.next h28) 0)) fun v35 =>
  ob (S 167 [a_1, v35] h34) fun r36 => kres r36 (fun v37 h38 =>
  ob (knil a_1) fun v41 =>
  ob (kfa 12 v41) fun v42 =>
  ob (kloadN 3 h38 v42) fun v43 =>
  ob (kfa 1 (.ptr (Heap.next h28) 0)) fun v44 =>
  ob (kload h38 v44) fun v45 =>
  ob (kfa 2 (.ptr (Heap.next h28) 0)) fun v46 =>
  ob (kload h38 v46) fun v47 =>
  ob (kfa 3 (.ptr (Heap.next h28) 0)) fun v48 =>
  ob (kload h38 v48) fun v49 =>
  kfree h38 (Heap.pushK h38 (.cells [(.int .i64 (.ofNat 0)), (.int .i64 (.ofNat 0)), (.int .i64 (.ofNat 0)), (.int .i64 (.ofNat 0)), (.int .i64 (.ofNat 0)), AV.nilslice] true 192) fun h50 =>
  ob (S 168 [v43, v45, v47, v49] h50) fun r51 => kres r51 (fun v52 h53 =>
  kro (Heap.next h38) h50 h53 (ob (aextract v52 0) fun v56 =>
  ob (aextract v52 1) fun v57 =>
  ob (kstore 6 (.ptr (Heap.next h38) 0) v56 h53) fun h58 =>
  ob (kfa 3 (.ptr (Heap.next h38) 0)) fun v59 =>
  ob (kload h58 v59) fun v60 =>
  ob (kbinI .neq v60 (.int .i64 (.ofNat 1))) fun v61 =>
  kif v61
   ((some (false, AV.nilslice, h58)))
   (ob (kloadN 6 h58 (.ptr (Heap.next h38) 0)) fun v62 =>
   ob (S 113 [a_1, v62, tear_4] h58) fun r63 => kres r63 (fun v64 h65 =>
   (some (false, v64, h65))) (fun p66 h67 => (some (true, p66, h67)))))) (fun p54 h55 => none))) (fun p39 h40 => (some (true, p39, h40)))) (fun p29 h30 => (some (true, p29, h30))))) (fun p20 h21 => (some (true, p20, h21)))) (fun p8 h9 => (some (true, p8, h9)))
theorem F108_ok {S : FS} {D : FD} (hS : SpecsOK Tryz.prog S) (hD : DynOK Tryz.prog D) : SpecOK Tryz.prog 108 (F108 S D) :=
  SpecOK.of (c := match Tryz.f108.body with | some c => c | none => .skip) (by kernel_rfl) hS hD ⟨Tryz.func108, rfl, by decide⟩
    (.seq .n (.seq (.seq .n (.dup (.seq .n .n) .n)) (.seq .n (.seq .n (.seq .n (.seq (.seq .n (.dup (.seq .n .n) .n)) (.seq .n .n))))))) 4 (fun args h => by kernel_rfl)
end Go.Rh.Tryz
