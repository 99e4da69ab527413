/- Printed by wip/tools/gen.py: functions of the program as plain functions over abstract values, each with its proof. -/
import Derived.Test.YtepgjdoablhgmaaGreatProg
import Derived.Test.YtepgjdoablhgmaaGreatRh3
set_option maxRecDepth 1000000
set_option linter.unusedVariables false
namespace Go.Rh.Tryz
open Go.Proofs
/-- roundhouse/tally.New -/
noncomputable def F227 (S : FS) (D : FD) (args : List AV) (h : Heap) : Option (Bool × AV × Heap) :=
 kv1 args fun nodes_1 =>
 ob (klenL nodes_1) fun v2 =>
 ob (iterD (fun vs3 ds4 h5 => kv5 vs3 fun nodes_6 last_7 v8 v9 v10 =>
  ob (kbinI .lss v10 v9) fun v11 =>
  kif v11
   (ob (kia 1 v8 v10) fun v12 =>
   ob (kload h5 v12) fun v13 =>
   ob (kbinI .leq v13 last_7) fun v14 =>
   ob (kgv false v14 (some v13)) fun v15 =>
   ob (kgv false v14 (kbinI .geq v15 (.int .i64 (.ofNat 16)))) fun v16 =>
   ob (kpick v14 (.bool true) v16) fun v17 =>
   kif v17
    ((some ⟨2, [AV.nilptr], ds4, h5⟩))
    (ob (kbinI .add v10 (.int .i64 (.ofNat 1))) fun v18 =>
    (some ⟨0, [nodes_6, v13, v8, v9, v18], ds4, h5⟩)))
   ((some ⟨1, [nodes_6], ds4, h5⟩))) rounds [nodes_1, (.int .i64 (.negSucc 0)), nodes_1, v2, (.int .i64 (.ofNat 0))] [] h) fun r19 => kcase (J.i r19) [kv1 (J.vs r19) fun nodes_20 =>
  ob (klenL nodes_20) fun v21 =>
  ob (kbinI .eql v21 (.int .i64 (.ofNat 0))) fun v22 =>
  kif v22
   ((dleave (fun h23 => (some (false, AV.nilptr, h23))) (J.ds r19) (J.h r19)))
   (ob (S 40 [nodes_20] (J.h r19)) fun r24 => kres r24 (fun v25 h26 =>
   ob (S 287 [v25] h26) fun r29 => kres r29 (fun v30 h31 =>
   ob (S 288 [v25] h31) fun r34 => kres r34 (fun v35 h36 =>
   ob (abuild Tryz.prog 183 [(0, v25), (1, v30), (2, v35)]) fun v39 =>
   knt v39 (Heap.pushK h36 (.cells (AV.cells v39) true 183) fun h40 =>
   (dleave (fun h41 => (some (false, (.ptr (Heap.next h36) 0), h41))) (J.ds r19) h40))) (fun p37 h38 => (kds (J.ds r19) (some (true, p37, h38))))) (fun p32 h33 => (kds (J.ds r19) (some (true, p32, h33))))) (fun p27 h28 => (kds (J.ds r19) (some (true, p27, h28))))),
 kv1 (J.vs r19) fun v42 =>
  (dleave (fun h43 => (some (false, v42, h43))) (J.ds r19) (J.h r19))]
theorem F227_ok {S : FS} {D : FD} (hS : SpecsOK Tryz.prog S) (hD : DynOK Tryz.prog D) : SpecOK Tryz.prog 227 (F227 S D) :=
  SpecOK.of (c := match Tryz.f227.body with | some c => c | none => .skip) (by kernel_rfl) hS hD ⟨Tryz.func227, rfl, by decide⟩
    (.seq .n (.seq .n (.seq (.seq .n (.one (.loop [0, 3, 6, 7, 8] [(.exit 0, [0]), (.ret, [2])] (.seq .n (.seq (.dup .n .n) (.seq (.one (.seq .n (.seq (.seq .n (.dup (.seq .n .n) .n)) .n))) .n)))))) (.seq (.seq .n (.dup (.seq .n .n) .n)) (.seq .n (.seq .n .n)))))) 1 (fun args h => by kernel_rfl)
/-- slices.IndexFunc[[]roundhouse/api.Step,roundhouse/api.Step] -/
noncomputable def F228 (S : FS) (D : FD) (args : List AV) (h : Heap) : Option (Bool × AV × Heap) :=
 kv2 args fun s_1 f_2 =>
 ob (klenL s_1) fun v3 =>
 ob (iterD (fun vs4 ds5 h6 => kv4 vs4 fun s_7 f_8 v9 v10 =>
  ob (kbinI .lss v10 v9) fun v11 =>
  kif v11
   (ob (kia 5 s_7 v10) fun v12 =>
   ob (kloadN 5 h6 v12) fun v13 =>
   ob (D f_8 [v13] h6) fun r14 => kres r14 (fun v15 h16 =>
   kif v15
    ((some ⟨2, [v10], ds5, h16⟩))
    (ob (kbinI .add v10 (.int .i64 (.ofNat 1))) fun v19 =>
    (some ⟨0, [s_7, f_8, v9, v19], ds5, h16⟩))) (fun p17 h18 => (some ⟨3, [p17], ds5, h18⟩)))
   ((some ⟨1, [], ds5, h6⟩))) rounds [s_1, f_2, v3, (.int .i64 (.ofNat 0))] [] h) fun r20 => kcase (J.i r20) [kv0 (J.vs r20) ((dleave (fun h21 => (some (false, (.int .i64 (.negSucc 0)), h21))) (J.ds r20) (J.h r20))),
 kv1 (J.vs r20) fun v22 =>
  (dleave (fun h23 => (some (false, v22, h23))) (J.ds r20) (J.h r20)),
 kv1 (J.vs r20) fun p24 => (kds (J.ds r20) (some (true, p24, (J.h r20))))]
theorem F228_ok {S : FS} {D : FD} (hS : SpecsOK Tryz.prog S) (hD : DynOK Tryz.prog D) : SpecOK Tryz.prog 228 (F228 S D) :=
  SpecOK.of (c := match Tryz.f228.body with | some c => c | none => .skip) (by kernel_rfl) hS hD ⟨Tryz.func228, rfl, by decide⟩
    (.seq .n (.seq (.seq .n (.one (.loop [0, 1, 7, 8] [(.exit 0, []), (.ret, [4]), (.pan, [])] (.seq .n (.seq (.dup .n .n) (.seq (.one (.seq .n (.seq .n (.dup (.seq .n .n) .n)))) .n)))))) (.seq .n .n))) 2 (fun args h => by kernel_rfl)
/-- slices.Repeat[[]int,int] -/
noncomputable def F229 (S : FS) (D : FD) (args : List AV) (h : Heap) : Option (Bool × AV × Heap) :=
 kv2 args fun x_1 count_2 =>
 ob (kbinI .lss count_2 (.int .i64 (.ofNat 0))) fun v3 =>
 kif v3
  (kpan (.iface 9 (.str 18 8838634371626034279618351153450530198413667)) fun p4 => (some (true, p4, h)))
  (ob (klenL x_1) fun v5 =>
  ob (kconvI .u64 v5) fun v6 =>
  ob (kconvI .u64 count_2) fun v7 =>
  ob (S 289 [v6, v7] h) fun r8 => kres r8 (fun v9 h10 =>
  ob (aextract v9 0) fun v13 =>
  ob (aextract v9 1) fun v14 =>
  ob (kbinI .gtr v13 (.int .u64 (.ofNat 0))) fun v15 =>
  ob (kgv false v15 (some v14)) fun v16 =>
  ob (kgv false v15 (kbinI .gtr v16 (.int .u64 (.ofNat 9223372036854775807)))) fun v17 =>
  ob (kpick v15 (.bool true) v17) fun v18 =>
  kif v18
   (kpan (.iface 9 (.str 40 963418128638552869720407654453272125421877327008697887680703274632671259614598848762731909441652)) fun p19 => (some (true, p19, h10)))
   (ob (kconvI .i64 v14) fun v20 =>
   ob (amakeSlice Tryz.prog 37 v20 v20) fun r21 => Heap.pushK h10 (.cells r21.1 true r21.2.2.2.2) fun h22 =>
   ob (acopy Tryz.prog h22 37 (.slice (Heap.next h10) 0 r21.2.1 r21.2.2.1 r21.2.2.2.1) x_1) fun r23 =>
   ob (iterD (fun vs24 ds25 h26 => kv2 vs24 fun newslice_27 n_28 =>
    ob (klenL newslice_27) fun v29 =>
    ob (kbinI .lss n_28 v29) fun v30 =>
    kif v30
     (ob (aslice Tryz.prog 37 newslice_27 (some n_28) none none) fun v31 =>
     ob (aslice Tryz.prog 37 newslice_27 none (some n_28) none) fun v32 =>
     ob (acopy Tryz.prog h26 37 v31 v32) fun r33 =>
     ob (kbinI .add n_28 r33.1) fun v34 =>
     (some ⟨0, [newslice_27, v34], ds25, r33.2⟩))
     ((some ⟨1, [newslice_27], ds25, h26⟩))) rounds [(.slice (Heap.next h10) 0 r21.2.1 r21.2.2.1 r21.2.2.2.1), r23.1] [] r23.2) fun r35 => kcase (J.i r35) [kv1 (J.vs r35) fun newslice_36 =>
    (dleave (fun h37 => (some (false, newslice_36, h37))) (J.ds r35) (J.h r35))])) (fun p11 h12 => (some (true, p11, h12))))
theorem F229_ok {S : FS} {D : FD} (hS : SpecsOK Tryz.prog S) (hD : DynOK Tryz.prog D) : SpecOK Tryz.prog 229 (F229 S D) :=
  SpecOK.of (c := match Tryz.f229.body with | some c => c | none => .skip) (by kernel_rfl) hS hD ⟨Tryz.func229, rfl, by decide⟩
    (.seq .n (.seq (.seq .n (.dup .n .n)) (.seq .n (.seq (.seq .n (.dup .n .n)) (.seq .n (.seq .n (.seq (.one (.loop [7, 8] [(.exit 0, [7])] (.seq (.seq .n (.dup .n .n)) (.one .n)))) (.seq .n .n)))))))) 2 (fun args h => by kernel_rfl)
/-- (*roundhouse/agent.Agent).living$1 -/
noncomputable def F230 (S : FS) (D : FD) (args : List AV) (h : Heap) : Option (Bool × AV × Heap) :=
 kv2 args fun yield_1 v2 =>
 ob (kload h v2) fun v3 =>
 ob (knil v3) fun v4 =>
 ob (kfa 12 v4) fun v5 =>
 ob (kfa 1 v5) fun v6 =>
 ob (kload h v6) fun v7 =>
 ob (S 67 [v7] h) fun r8 => kres r8 (fun v9 h10 =>
 ob (klenL v9) fun v13 =>
 ob (iterD (fun vs14 ds15 h16 => kv4 vs14 fun yield_17 v18 v19 v20 =>
  ob (kbinI .lss v20 v19) fun v21 =>
  kif v21
   (ob (kia 6 v18 v20) fun v22 =>
   ob (kloadN 6 h16 v22) fun v23 =>
   Heap.pushK h16 (.cells [(.int .i64 (.ofNat 0)), (.int .i64 (.ofNat 0)), (.int .i64 (.ofNat 0)), (.int .i64 (.ofNat 0)), (.int .i64 (.ofNat 0)), AV.nilslice] true 156) fun h24 =>
   ob (kstore 6 (.ptr (Heap.next h16) 0) v23 h24) fun h25 =>
   ob (kfa 3 (.ptr (Heap.next h16) 0)) fun v26 =>
   ob (kload h25 v26) fun v27 =>
   ob (kbinI .eql v27 (.int .i64 (.ofNat 0))) fun v28 =>
   ob (kgv false v28 (kfa 3 (.ptr (Heap.next h16) 0))) fun v29 =>
   ob (kgv false v28 (kload h25 v29)) fun v30 =>
   ob (kgv false v28 (kbinI .eql v30 (.int .i64 (.ofNat 1)))) fun v31 =>
   ob (kpick v28 (.bool true) v31) fun v32 =>
   ob (kgv true v32 (some yield_17)) fun v33 =>
   ob (kgv true v32 (kloadN 6 h25 (.ptr (Heap.next h16) 0))) fun v34 =>
   ob (kgc true v32 h25 (D v33 [v34] h25)) fun r35 => kres r35 (fun v36 h37 =>
   ob (kgv true v32 (aun .not v36)) fun v40 =>
   ob (kpick v32 v40 (.bool false)) fun v41 =>
   kif v41
    ((some ⟨2, [], ds15, h37⟩))
    (ob (kbinI .add v20 (.int .i64 (.ofNat 1))) fun v42 =>
    (some ⟨0, [yield_17, v18, v19, v42], ds15, h37⟩))) (fun p38 h39 => (some ⟨3, [p38], ds15, h39⟩)))
   ((some ⟨1, [], ds15, h16⟩))) rounds [yield_1, v9, v13, (.int .i64 (.ofNat 0))] [] h10) fun r43 => kcase (J.i r43) [kv0 (J.vs r43) ((dleave (fun h44 => (some (false, (.tuple []), h44))) (J.ds r43) (J.h r43))),
 kv0 (J.vs r43) ((dleave (fun h45 => (some (false, (.tuple []), h45))) (J.ds r43) (J.h r43))),
 kv1 (J.vs r43) fun p46 => (kds (J.ds r43) (some (true, p46, (J.h r43))))]) (fun p11 h12 => (some (true, p11, h12)))
theorem F230_ok {S : FS} {D : FD} (hS : SpecsOK Tryz.prog S) (hD : DynOK Tryz.prog D) : SpecOK Tryz.prog 230 (F230 S D) :=
  SpecOK.of (c := match Tryz.f230.body with | some c => c | none => .skip) (by kernel_rfl) hS hD ⟨Tryz.func230, rfl, by decide⟩
    (.seq .n (.one (.loop [0, 10, 11, 12] [(.exit 0, []), (.ret, []), (.pan, [])] (.seq .n (.seq (.dup .n .n) (.seq (.one (.seq .n (.seq .n (.dup .n .n)))) .n)))))) 2 (fun args h => by kernel_rfl)
/-- roundhouse/agent.numberOf -/
noncomputable def F231 (S : FS) (D : FD) (args : List AV) (h : Heap) : Option (Bool × AV × Heap) :=
 kv1 args fun x_1 =>
 knt x_1 (Heap.pushK h (.cells (AV.cells x_1) true 156) fun h2 =>
 ob (kfa 0 (.ptr (Heap.next h) 0)) fun v3 =>
 ob (kload h2 v3) fun v4 =>
 ob (kfa 1 (.ptr (Heap.next h) 0)) fun v5 =>
 ob (kload h2 v5) fun v6 =>
 ob (kfa 2 (.ptr (Heap.next h) 0)) fun v7 =>
 ob (kload h2 v7) fun v8 =>
 ob (S 290 [v4, v6, v8] h2) fun r9 => kres r9 (fun v10 h11 =>
 (some (false, v10, h11))) (fun p12 h13 => (some (true, p12, h13))))
theorem F231_ok {S : FS} {D : FD} (hS : SpecsOK Tryz.prog S) (hD : DynOK Tryz.prog D) : SpecOK Tryz.prog 231 (F231 S D) :=
  SpecOK.of (c := match Tryz.f231.body with | some c => c | none => .skip) (by kernel_rfl) hS hD ⟨Tryz.func231, rfl, by decide⟩
    (.seq .n (.seq .n .n)) 1 (fun args h => by kernel_rfl)
/-- roundhouse/ladder.may -/
noncomputable def F232 (S : FS) (D : FD) (args : List AV) (h : Heap) : Option (Bool × AV × Heap) :=
 kv2 args fun p_1 r_2 =>
 knt p_1 (Heap.pushK h (.cells (AV.cells p_1) true 289) fun h3 =>
 knt r_2 (Heap.pushK h3 (.cells (AV.cells r_2) true 291) fun h4 =>
 ob (kloadN 4 h4 (.ptr (Heap.next h) 0)) fun v5 =>
 ob (S 291 [v5] h4) fun r6 => kres r6 (fun v7 h8 =>
 ob (kbinI .eql v7 (.int .i64 (.ofNat 0))) fun v11 =>
 ob (kgv true v11 (kfa 0 (.ptr (Heap.next h3) 0))) fun v12 =>
 ob (kgv true v11 (kload h8 v12)) fun v13 =>
 ob (kgc true v11 h8 (S 292 [v13, (.int .i64 (.ofNat 0)), (.int .i64 (.ofNat 1099511627776))] h8)) fun r14 => kres r14 (fun v15 h16 =>
 ob (kpick v11 v15 (.bool false)) fun v19 =>
 ob (kgv true v19 (kfa 1 (.ptr (Heap.next h3) 0))) fun v20 =>
 ob (kgv true v19 (kload h16 v20)) fun v21 =>
 ob (kgv true v19 (kbinI .eql v21 (.int .i64 (.negSucc 0)))) fun v22 =>
 ob (kgv true v19 (some v22)) fun v23 =>
 ob (kgv false v23 (kfa 1 (.ptr (Heap.next h3) 0))) fun v24 =>
 ob (kgv false v23 (kload h16 v24)) fun v25 =>
 ob (kgv false v23 (kfa 0 (.ptr (Heap.next h3) 0))) fun v26 =>
 ob (kgv false v23 (kload h16 v26)) fun v27 =>
 ob (kgc false v23 h16 (S 292 [v25, v27, (.int .i64 (.ofNat 1099511627776))] h16)) fun r28 => kres r28 (fun v29 h30 =>
 ob (kgv true v19 (kpick v23 (.bool true) v29)) fun v33 =>
 ob (kpick v19 v33 (.bool false)) fun v34 =>
 (some (false, v34, h30))) (fun p31 h32 => (some (true, p31, h32)))) (fun p17 h18 => (some (true, p17, h18)))) (fun p9 h10 => (some (true, p9, h10)))))
theorem F232_ok {S : FS} {D : FD} (hS : SpecsOK Tryz.prog S) (hD : DynOK Tryz.prog D) : SpecOK Tryz.prog 232 (F232 S D) :=
  SpecOK.of (c := match Tryz.f232.body with | some c => c | none => .skip) (by kernel_rfl) hS hD ⟨Tryz.func232, rfl, by decide⟩
    (.seq .n (.seq .n .n)) 2 (fun args h => by kernel_rfl)
/-- roundhouse/ladder.Rungs -/
noncomputable def F233 (S : FS) (D : FD) (args : List AV) (h : Heap) : Option (Bool × AV × Heap) :=
 kv2 args fun p_1 r_2 =>
 knt p_1 (Heap.pushK h (.cells (AV.cells p_1) true 289) fun h3 =>
 knt r_2 (Heap.pushK h3 (.cells (AV.cells r_2) true 291) fun h4 =>
 Heap.pushK h4 (.cells [(.int .i64 (.ofNat 0)), (.int .i64 (.ofNat 0)), (.int .i64 (.ofNat 0)), (.int .i64 (.ofNat 0)), (.int .i64 (.ofNat 0))] true 340) fun h5 =>
 ob (kloadN 4 h5 (.ptr (Heap.next h) 0)) fun v6 =>
 ob (kloadN 2 h5 (.ptr (Heap.next h3) 0)) fun v7 =>
 ob (S 293 [v6, v7] h5) fun r8 => kres r8 (fun v9 h10 =>
 ob (kbinI .eql v9 (.int .i64 (.negSucc 0))) fun v13 =>
 kif v13
  (ob (abuild Tryz.prog 340 [(0, (.int .i64 (.negSucc 0))), (1, (.int .i64 (.negSucc 0))), (2, (.int .i64 (.negSucc 0))), (3, (.int .i64 (.negSucc 0))), (4, (.int .i64 (.negSucc 0)))]) fun v14 =>
  ob (kstore 5 (.ptr (Heap.next h4) 0) v14 h10) fun h15 =>
  ob (kloadN 5 h15 (.ptr (Heap.next h4) 0)) fun v16 => (some (false, v16, h15)))
  (ob (kfa 0 (.ptr (Heap.next h3) 0)) fun v17 =>
  ob (kload h10 v17) fun v18 =>
  ob (kfa 0 (.ptr (Heap.next h3) 0)) fun v19 =>
  ob (kload h10 v19) fun v20 =>
  ob (kfa 0 (.ptr (Heap.next h) 0)) fun v21 =>
  ob (kload h10 v21) fun v22 =>
  ob (kbinI .add v20 v22) fun v23 =>
  ob (kfa 1 (.ptr (Heap.next h) 0)) fun v24 =>
  ob (kload h10 v24) fun v25 =>
  ob (kbinI .sub v23 v25) fun v26 =>
  ob (amaxs false [v26, v9]) fun v27 =>
  ob (kfa 2 (.ptr (Heap.next h) 0)) fun v28 =>
  ob (kload h10 v28) fun v29 =>
  ob (kbinI .add v9 v29) fun v30 =>
  ob (kfa 2 (.ptr (Heap.next h) 0)) fun v31 =>
  ob (kload h10 v31) fun v32 =>
  ob (kbinI .add v9 v32) fun v33 =>
  ob (kfa 3 (.ptr (Heap.next h) 0)) fun v34 =>
  ob (kload h10 v34) fun v35 =>
  ob (kbinI .add v33 v35) fun v36 =>
  ob (abuild Tryz.prog 340 [(0, v18), (1, v27), (2, v9), (3, v30), (4, v36)]) fun v37 =>
  ob (kstore 5 (.ptr (Heap.next h4) 0) v37 h10) fun h38 =>
  ob (kloadN 5 h38 (.ptr (Heap.next h4) 0)) fun v39 => (some (false, v39, h38)))) (fun p11 h12 => (some (true, p11, h12)))))
theorem F233_ok {S : FS} {D : FD} (hS : SpecsOK Tryz.prog S) (hD : DynOK Tryz.prog D) : SpecOK Tryz.prog 233 (F233 S D) :=
  SpecOK.of (c := match Tryz.f233.body with | some c => c | none => .skip) (by kernel_rfl) hS hD ⟨Tryz.func233, rfl, by decide⟩
    (.seq .n (.seq .n (.seq (.seq .n (.dup (.seq .n .n) .n)) (.seq .n .n)))) 2 (fun args h => by kernel_rfl)
/-- (*roundhouse/procs.Table).Signal -/
noncomputable def F234 (S : FS) (D : FD) (args : List AV) (h : Heap) : Option (Bool × AV × Heap) :=
 kv3 args fun t_1 pid_2 sig_3 =>
 ob (kbinI .neq sig_3 (.int .i64 (.ofNat 15))) fun v4 =>
 ob (kgv true v4 (some sig_3)) fun v5 =>
 ob (kgv true v4 (kbinI .neq v5 (.int .i64 (.ofNat 9)))) fun v6 =>
 ob (kpick v4 v6 (.bool false)) fun v7 =>
 kif v7
  ((some (false, (.int .i64 (.ofNat 1)), h)))
  (ob (S 294 [t_1, pid_2, (.func 295 [])] h) fun r8 => kres r8 (fun v9 h10 =>
  ob (aextract v9 0) fun v13 =>
  ob (aextract v9 1) fun v14 =>
  ob (kbinI .neq v14 (.int .i64 (.ofNat 0))) fun v15 =>
  kif v15
   ((some (false, v14, h10)))
   (ob (knil v13) fun v16 =>
   ob (kfa 0 v16) fun v17 =>
   ob (kfa 6 v17) fun v18 =>
   ob (kload h10 v18) fun v19 =>
   ob (kbinI .eql v19 (.int .i64 (.ofNat 0))) fun v20 =>
   ob (kgv true v20 (some sig_3)) fun v21 =>
   ob (kgv true v20 (kbinI .eql v21 (.int .i64 (.ofNat 9)))) fun v22 =>
   ob (kpick v20 v22 (.bool false)) fun v23 =>
   ob (kif v23
    (ob (knil v13) fun v25 =>
    ob (kfa 0 v25) fun v26 =>
    ob (kfa 6 v26) fun v27 =>
    ob (kstore 1 v27 (.int .i64 (.ofNat 2)) h10) fun h28 =>
    ob (knil v13) fun v29 =>
    ob (kfa 0 v29) fun v30 =>
    ob (kfa 7 v30) fun v31 =>
    ob (kstore 1 v31 (.int .i64 (.ofNat 137)) h28) fun h32 =>
    (some ⟨0, [sig_3, v13], [], h32⟩))
    ((some ⟨0, [sig_3, v13], [], h10⟩))) fun r24 => kcase (J.i r24) [kv2 (J.vs r24) fun sig_33 p_34 =>
    ob (knil p_34) fun v35 =>
    ob (kfa 8 v35) fun v36 =>
    ob (kload (J.h r24) v36) fun v37 =>
    ob (kbinI .neq v37 (.int .i64 (.ofNat 9))) fun v38 =>
    ob (kif v38
     (ob (knil p_34) fun v40 =>
     ob (kfa 8 v40) fun v41 =>
     ob (kstore 1 v41 sig_33 (J.h r24)) fun h42 =>
     (some ⟨0, [], (J.ds r24), h42⟩))
     ((some ⟨0, [], (J.ds r24), (J.h r24)⟩))) fun r39 => kcase (J.i r39) [kv0 (J.vs r39) ((dleave (fun h43 => (some (false, (.int .i64 (.ofNat 0)), h43))) (J.ds r39) (J.h r39)))]])) (fun p11 h12 => (some (true, p11, h12))))
theorem F234_ok {S : FS} {D : FD} (hS : SpecsOK Tryz.prog S) (hD : DynOK Tryz.prog D) : SpecOK Tryz.prog 234 (F234 S D) :=
  SpecOK.of (c := match Tryz.f234.body with | some c => c | none => .skip) (by kernel_rfl) hS hD ⟨Tryz.func234, rfl, by decide⟩
    (.seq .n (.seq (.seq .n (.dup (.seq .n .n) .n)) (.seq .n (.seq (.seq .n (.dup (.seq .n .n) .n)) (.seq (.seq .n (.join [(.norm, [2, 7])] (.dup .n .n))) (.seq (.seq .n (.join [(.norm, [])] (.dup .n .n))) (.seq .n .n))))))) 3 (fun args h => by kernel_rfl)
/-- (*roundhouse/ctl.job).first -/
noncomputable def F235 (S : FS) (D : FD) (args : List AV) (h : Heap) : Option (Bool × AV × Heap) :=
 kv2 args fun x_1 yield_2 =>
 ob (knil x_1) fun v3 =>
 ob (kfa 9 v3) fun v4 =>
 ob (kload h v4) fun v5 =>
 ob (S 296 [x_1, v5] h) fun r6 => kres r6 (fun v7 h8 =>
 ob (klenL v7) fun v11 =>
 ob (iterD (fun vs12 ds13 h14 => kv4 vs12 fun yield_15 v16 v17 v18 =>
  ob (kbinI .lss v18 v17) fun v19 =>
  kif v19
   (ob (kia 1 v16 v18) fun v20 =>
   ob (kload h14 v20) fun v21 =>
   ob (abuild Tryz.prog 300 [(0, (.int .i64 (.ofNat 0))), (2, v21)]) fun v22 =>
   ob (D yield_15 [v22] h14) fun r23 => kres r23 (fun v24 h25 =>
   ob (aun .not v24) fun v28 =>
   kif v28
    ((some ⟨2, [], ds13, h25⟩))
    (ob (kbinI .add v18 (.int .i64 (.ofNat 1))) fun v29 =>
    (some ⟨0, [yield_15, v16, v17, v29], ds13, h25⟩))) (fun p26 h27 => (some ⟨3, [p26], ds13, h27⟩)))
   ((some ⟨1, [], ds13, h14⟩))) rounds [yield_2, v7, v11, (.int .i64 (.ofNat 0))] [] h8) fun r30 => kcase (J.i r30) [kv0 (J.vs r30) ((dleave (fun h31 => (some (false, (.tuple []), h31))) (J.ds r30) (J.h r30))),
 kv0 (J.vs r30) ((dleave (fun h32 => (some (false, (.tuple []), h32))) (J.ds r30) (J.h r30))),
 kv1 (J.vs r30) fun p33 => (kds (J.ds r30) (some (true, p33, (J.h r30))))]) (fun p9 h10 => (some (true, p9, h10)))
theorem F235_ok {S : FS} {D : FD} (hS : SpecsOK Tryz.prog S) (hD : DynOK Tryz.prog D) : SpecOK Tryz.prog 235 (F235 S D) :=
  SpecOK.of (c := match Tryz.f235.body with | some c => c | none => .skip) (by kernel_rfl) hS hD ⟨Tryz.func235, rfl, by decide⟩
    (.seq .n (.one (.loop [1, 11, 12, 13] [(.exit 0, []), (.ret, []), (.pan, [])] (.seq .n (.seq (.dup .n .n) (.seq (.one (.seq .n (.seq .n (.dup .n .n)))) .n)))))) 2 (fun args h => by kernel_rfl)
/-- (*roundhouse/ctl.job).steps -/
noncomputable def F236 (S : FS) (D : FD) (args : List AV) (h : Heap) : Option (Bool × AV × Heap) :=
 kv3 args fun x_1 key_2 now_3 =>
 knt x_1 (Heap.pushK h (.cells (AV.cells x_1) true 113) fun h4 =>
 knt key_2 (Heap.pushK h4 (.cells (AV.cells key_2) true 9) fun h5 =>
 knt now_3 (Heap.pushK h5 (.cells (AV.cells now_3) true 3) fun h6 =>
 (some (false, (.func 297 [(.ptr (Heap.next h) 0), (.ptr (Heap.next h4) 0), (.ptr (Heap.next h5) 0)]), h6)))))
theorem F236_ok {S : FS} {D : FD} (hS : SpecsOK Tryz.prog S) (hD : DynOK Tryz.prog D) : SpecOK Tryz.prog 236 (F236 S D) :=
  SpecOK.of (c := match Tryz.f236.body with | some c => c | none => .skip) (by kernel_rfl) hS hD ⟨Tryz.func236, rfl, by decide⟩
    (.seq .n (.seq .n .n)) 3 (fun args h => by kernel_rfl)
/-- (*roundhouse/ctl.job).last -/
noncomputable def F237 (S : FS) (D : FD) (args : List AV) (h : Heap) : Option (Bool × AV × Heap) :=
 kv2 args fun x_1 yield_2 =>
 ob (knil x_1) fun v3 =>
 ob (kfa 10 v3) fun v4 =>
 ob (kload h v4) fun v5 =>
 ob (S 296 [x_1, v5] h) fun r6 => kres r6 (fun v7 h8 =>
 ob (klenL v7) fun v11 =>
 ob (iterD (fun vs12 ds13 h14 => kv5 vs12 fun x_15 yield_16 v17 v18 v19 =>
  ob (kbinI .lss v19 v18) fun v20 =>
  kif v20
   (ob (kia 1 v17 v19) fun v21 =>
   ob (kload h14 v21) fun v22 =>
   ob (knil x_15) fun v23 =>
   ob (kfa 8 v23) fun v24 =>
   ob (kload h14 v24) fun v25 =>
   ob (klenL v25) fun v26 =>
   ob (iterD (fun vs27 ds28 h29 => kv9 vs27 fun x_30 yield_31 n_32 v33 v34 v35 v36 v37 v38 =>
    ob (kbinI .lss v38 v37) fun v39 =>
    kif v39
     (ob (kia 1 v36 v38) fun v40 =>
     ob (kload h29 v40) fun v41 =>
     ob (S 41 [v41] h29) fun r42 => kres r42 (fun v43 h44 =>
     ob (kbinI .eql v43 (.int .i64 (.ofNat 2))) fun v47 =>
     ob (kgv true v47 (some yield_31)) fun v48 =>
     ob (kgv true v47 (some n_32)) fun v49 =>
     ob (kgv true v47 (some v38)) fun v50 =>
     ob (kgv true v47 (abuild Tryz.prog 300 [(0, (.int .i64 (.ofNat 5))), (2, v49), (5, v50)])) fun v51 =>
     ob (kgc true v47 h44 (D v48 [v51] h44)) fun r52 => kres r52 (fun v53 h54 =>
     ob (kgv true v47 (aun .not v53)) fun v57 =>
     ob (kpick v47 v57 (.bool false)) fun v58 =>
     kif v58
      ((some ⟨2, [], ds28, h54⟩))
      (ob (kbinI .add v38 (.int .i64 (.ofNat 1))) fun v59 =>
      (some ⟨0, [x_30, yield_31, n_32, v33, v34, v35, v36, v37, v59], ds28, h54⟩))) (fun p55 h56 => (some ⟨3, [p55], ds28, h56⟩))) (fun p45 h46 => (some ⟨3, [p45], ds28, h46⟩)))
     ((some ⟨1, [x_30, yield_31, n_32, v33, v34, v35], ds28, h29⟩))) rounds [x_15, yield_16, v22, v17, v18, v19, v25, v26, (.int .i64 (.ofNat 0))] ds13 h14) fun r60 => kcase (J.i r60) [kv6 (J.vs r60) fun x_61 yield_62 n_63 v64 v65 v66 =>
    ob (abuild Tryz.prog 300 [(0, (.int .i64 (.ofNat 8))), (2, n_63)]) fun v67 =>
    ob (D yield_62 [v67] (J.h r60)) fun r68 => kres r68 (fun v69 h70 =>
    ob (aun .not v69) fun v73 =>
    kif v73
     ((some ⟨2, [], (J.ds r60), h70⟩))
     (ob (kbinI .add v66 (.int .i64 (.ofNat 1))) fun v74 =>
     (some ⟨0, [x_61, yield_62, v64, v65, v74], (J.ds r60), h70⟩))) (fun p71 h72 => (some ⟨3, [p71], (J.ds r60), h72⟩)),
   kv0 (J.vs r60) ((some ⟨2, [], (J.ds r60), (J.h r60)⟩)),
   kv1 (J.vs r60) fun p75 => (some ⟨3, [p75], (J.ds r60), (J.h r60)⟩)])
   ((some ⟨1, [], ds13, h14⟩))) rounds [x_1, yield_2, v7, v11, (.int .i64 (.ofNat 0))] [] h8) fun r76 => kcase (J.i r76) [kv0 (J.vs r76) ((dleave (fun h77 => (some (false, (.tuple []), h77))) (J.ds r76) (J.h r76))),
 kv0 (J.vs r76) ((dleave (fun h78 => (some (false, (.tuple []), h78))) (J.ds r76) (J.h r76))),
 kv1 (J.vs r76) fun p79 => (kds (J.ds r76) (some (true, p79, (J.h r76))))]) (fun p9 h10 => (some (true, p9, h10)))
theorem F237_ok {S : FS} {D : FD} (hS : SpecsOK Tryz.prog S) (hD : DynOK Tryz.prog D) : SpecOK Tryz.prog 237 (F237 S D) :=
  SpecOK.of (c := match Tryz.f237.body with | some c => c | none => .skip) (by kernel_rfl) hS hD ⟨Tryz.func237, rfl, by decide⟩
    (.seq .n (.one (.loop [0, 1, 13, 14, 15] [(.exit 0, []), (.ret, []), (.pan, [])] (.seq .n (.seq (.dup .n .n) (.seq (.one (.seq .n (.seq (.seq .n (.one (.loop [0, 1, 5, 13, 14, 15, 22, 23, 24] [(.exit 2, [0, 1, 5, 13, 14, 15]), (.ret, []), (.pan, [])] (.seq .n (.seq (.dup .n .n) (.seq (.one (.seq .n (.seq .n (.dup .n .n)))) .n)))))) (.seq .n (.dup .n .n))))) .n)))))) 2 (fun args h => by kernel_rfl)
/-- (*roundhouse/ctl.job).messages$1 -/
noncomputable def F238 (S : FS) (D : FD) (args : List AV) (h : Heap) : Option (Bool × AV × Heap) :=
 kv1 args fun v1 =>
 (some (false, (.tuple []), h))
theorem F238_ok {S : FS} {D : FD} (hS : SpecsOK Tryz.prog S) (hD : DynOK Tryz.prog D) : SpecOK Tryz.prog 238 (F238 S D) :=
  SpecOK.of (c := match Tryz.f238.body with | some c => c | none => .skip) (by kernel_rfl) hS hD ⟨Tryz.func238, rfl, by decide⟩
    .n 1 (fun args h => by kernel_rfl)
/-- roundhouse/wire.message -/
noncomputable def F239 (S : FS) (D : FD) (args : List AV) (h : Heap) : Option (Bool × AV × Heap) :=
 kv1 args fun m_1 =>
 knt m_1 (Heap.pushK h (.cells (AV.cells m_1) true 300) fun h2 =>
 ob (kfa 0 (.ptr (Heap.next h) 0)) fun v3 =>
 ob (kload h2 v3) fun v4 =>
 ob (kbinI .geq v4 (.int .i64 (.ofNat 0))) fun v5 =>
 ob (kgv true v5 (kfa 0 (.ptr (Heap.next h) 0))) fun v6 =>
 ob (kgv true v5 (kload h2 v6)) fun v7 =>
 ob (kgv true v5 (kbinI .lss v7 (.int .i64 (.ofNat 10)))) fun v8 =>
 ob (kpick v5 v8 (.bool false)) fun v9 =>
 ob (kgv true v9 (kfa 1 (.ptr (Heap.next h) 0))) fun v10 =>
 ob (kgv true v9 (kload h2 v10)) fun v11 =>
 ob (kgc true v9 h2 (S 300 [v11] h2)) fun r12 => kres r12 (fun v13 h14 =>
 ob (kpick v9 v13 (.bool false)) fun v17 =>
 ob (kgv true v17 (kfa 2 (.ptr (Heap.next h) 0))) fun v18 =>
 ob (kgv true v17 (kload h14 v18)) fun v19 =>
 ob (kgc true v17 h14 (S 300 [v19] h14)) fun r20 => kres r20 (fun v21 h22 =>
 ob (kpick v17 v21 (.bool false)) fun v25 =>
 ob (kgv true v25 (kfa 3 (.ptr (Heap.next h) 0))) fun v26 =>
 ob (kgv true v25 (kload h22 v26)) fun v27 =>
 ob (kgc true v25 h22 (S 212 [v27] h22)) fun r28 => kres r28 (fun v29 h30 =>
 ob (kpick v25 v29 (.bool false)) fun v33 =>
 ob (kgv true v33 (kfa 4 (.ptr (Heap.next h) 0))) fun v34 =>
 ob (kgv true v33 (kload h30 v34)) fun v35 =>
 ob (kgc true v33 h30 (S 212 [v35] h30)) fun r36 => kres r36 (fun v37 h38 =>
 ob (kpick v33 v37 (.bool false)) fun v41 =>
 ob (kgv true v41 (kfa 5 (.ptr (Heap.next h) 0))) fun v42 =>
 ob (kgv true v41 (kload h38 v42)) fun v43 =>
 ob (kgc true v41 h38 (S 212 [v43] h38)) fun r44 => kres r44 (fun v45 h46 =>
 ob (kpick v41 v45 (.bool false)) fun v49 =>
 ob (kgv true v49 (kfa 6 (.ptr (Heap.next h) 0))) fun v50 =>
 ob (kgv true v49 (kload h46 v50)) fun v51 =>
 ob (kgc true v49 h46 (S 212 [v51] h46)) fun r52 => kres r52 (fun v53 h54 =>
 ob (kpick v49 v53 (.bool false)) fun v57 =>
 ob (kgv true v57 (kfa 7 (.ptr (Heap.next h) 0))) fun v58 =>
 ob (kgv true v57 (kload h54 v58)) fun v59 =>
 ob (kgv true v57 (klenS v59)) fun v60 =>
 ob (kgv true v57 (kbinI .leq v60 (.int .i64 (.ofNat 4096)))) fun v61 =>
 ob (kpick v57 v61 (.bool false)) fun v62 =>
 (some (false, v62, h54))) (fun p55 h56 => (some (true, p55, h56)))) (fun p47 h48 => (some (true, p47, h48)))) (fun p39 h40 => (some (true, p39, h40)))) (fun p31 h32 => (some (true, p31, h32)))) (fun p23 h24 => (some (true, p23, h24)))) (fun p15 h16 => (some (true, p15, h16))))
theorem F239_ok {S : FS} {D : FD} (hS : SpecsOK Tryz.prog S) (hD : DynOK Tryz.prog D) : SpecOK Tryz.prog 239 (F239 S D) :=
  SpecOK.of (c := match Tryz.f239.body with | some c => c | none => .skip) (by kernel_rfl) hS hD ⟨Tryz.func239, rfl, by decide⟩
    (.seq .n (.seq .n .n)) 1 (fun args h => by kernel_rfl)
/-- (*strings.Builder).WriteString -/
noncomputable def F240 (S : FS) (D : FD) (args : List AV) (h : Heap) : Option (Bool × AV × Heap) :=
 kv2 args fun b_1 s_2 =>
 ob (S 301 [b_1] h) fun r3 => kres r3 (fun v4 h5 =>
 ob (knil b_1) fun v8 =>
 ob (kfa 1 v8) fun v9 =>
 ob (kload h5 v9) fun v10 =>
 ob (aappend Tryz.prog h5 345 9 v10 s_2) fun r11 =>
 ob (knil b_1) fun v12 =>
 ob (kfa 1 v12) fun v13 =>
 ob (kstore 1 v13 r11.1 r11.2) fun h14 =>
 ob (klenS s_2) fun v15 =>
 (some (false, (.tuple [v15, AV.niliface]), h14))) (fun p6 h7 => (some (true, p6, h7)))
theorem F240_ok {S : FS} {D : FD} (hS : SpecsOK Tryz.prog S) (hD : DynOK Tryz.prog D) : SpecOK Tryz.prog 240 (F240 S D) :=
  SpecOK.of (c := match Tryz.f240.body with | some c => c | none => .skip) (by kernel_rfl) hS hD ⟨Tryz.func240, rfl, by decide⟩
    (.seq .n (.seq .n (.seq .n (.seq .n .n)))) 2 (fun args h => by kernel_rfl)
/-- roundhouse/wire.Num -/
noncomputable def F241 (S : FS) (D : FD) (args : List AV) (h : Heap) : Option (Bool × AV × Heap) :=
 kv1 args fun n_1 =>
 ob (S 212 [n_1] h) fun r2 => kres r2 (fun v3 h4 =>
 ob (aun .not v3) fun v7 =>
 kif v7
  ((some (false, (.str 0 0), h4)))
  (ob (iterD (fun vs8 ds9 h10 => kv2 vs8 fun n_11 size_12 =>
   ob (kbinI .mul (.int .i64 (.ofNat 8)) size_12) fun v13 =>
   ob (kbinI .shr n_11 v13) fun v14 =>
   ob (kbinI .gtr v14 (.int .i64 (.ofNat 0))) fun v15 =>
   kif v15
    (ob (kbinI .add size_12 (.int .i64 (.ofNat 1))) fun v16 =>
    (some ⟨0, [n_11, v16], ds9, h10⟩))
    ((some ⟨1, [n_11, size_12], ds9, h10⟩))) rounds [n_1, (.int .i64 (.ofNat 0))] [] h4) fun r17 => kcase (J.i r17) [kv2 (J.vs r17) fun n_18 size_19 =>
   ob (kconvI .u8 size_19) fun v20 =>
   ob (abuildSlice Tryz.prog 345 1 [(0, v20)]) fun r21 => Heap.pushK (J.h r17) (.cells r21.1 true r21.2.2) fun h22 =>
   ob (kbinI .sub size_19 (.int .i64 (.ofNat 1))) fun v23 =>
   ob (iterD (fun vs24 ds25 h26 => kv3 vs24 fun n_27 out_28 i_29 =>
    ob (kbinI .geq i_29 (.int .i64 (.ofNat 0))) fun v30 =>
    kif v30
     (ob (kbinI .mul (.int .i64 (.ofNat 8)) i_29) fun v31 =>
     ob (kbinI .shr n_27 v31) fun v32 =>
     ob (kconvI .u8 v32) fun v33 =>
     ob (abuildSlice Tryz.prog 345 1 [(0, v33)]) fun r34 => Heap.pushK h26 (.cells r34.1 true r34.2.2) fun h35 =>
     ob (aappend Tryz.prog h35 345 345 out_28 (.slice (Heap.next h26) 0 1 1 r34.2.1)) fun r36 =>
     ob (kbinI .sub i_29 (.int .i64 (.ofNat 1))) fun v37 =>
     (some ⟨0, [n_27, r36.1, v37], ds25, r36.2⟩))
     ((some ⟨1, [out_28], ds25, h26⟩))) rounds [n_18, (.slice (Heap.next (J.h r17)) 0 1 1 r21.2.1), v23] (J.ds r17) h22) fun r38 => kcase (J.i r38) [kv1 (J.vs r38) fun out_39 =>
    ob (kbytes (J.h r38) out_39) fun v40 =>
    (dleave (fun h41 => (some (false, v40, h41))) (J.ds r38) (J.h r38))]])) (fun p5 h6 => (some (true, p5, h6)))
theorem F241_ok {S : FS} {D : FD} (hS : SpecsOK Tryz.prog S) (hD : DynOK Tryz.prog D) : SpecOK Tryz.prog 241 (F241 S D) :=
  SpecOK.of (c := match Tryz.f241.body with | some c => c | none => .skip) (by kernel_rfl) hS hD ⟨Tryz.func241, rfl, by decide⟩
    (.seq .n (.seq (.seq .n (.dup (.seq .n .n) .n)) (.seq .n (.seq (.one (.loop [0, 3] [(.exit 0, [0, 3])] (.seq (.seq .n (.dup .n .n)) (.one .n)))) (.seq .n (.seq (.seq .n (.one (.loop [0, 4, 5] [(.exit 2, [4])] (.seq (.seq .n (.dup .n .n)) (.seq (.one .n) .n))))) (.seq .n .n))))))) 1 (fun args h => by kernel_rfl)
/-- (*strings.Builder).String -/
noncomputable def F242 (S : FS) (D : FD) (args : List AV) (h : Heap) : Option (Bool × AV × Heap) :=
 kv1 args fun b_1 =>
 ob (knil b_1) fun v2 =>
 ob (kfa 1 v2) fun v3 =>
 ob (kload h v3) fun v4 =>
 ob (knil b_1) fun v5 =>
 ob (kfa 1 v5) fun v6 =>
 ob (kload h v6) fun v7 =>
 ob (klenL v7) fun v8 =>
 ob (ausd v4) fun v9 =>
 kre (kload h v6) v7 (ob (austr Tryz.prog h 400 v9 v8) fun r10 =>
 (some (false, r10.1, r10.2)))
theorem F242_ok {S : FS} {D : FD} (hS : SpecsOK Tryz.prog S) (hD : DynOK Tryz.prog D) : SpecOK Tryz.prog 242 (F242 S D) :=
  SpecOK.of (c := match Tryz.f242.body with | some c => c | none => .skip) (by kernel_rfl) hS hD ⟨Tryz.func242, rfl, by decide⟩
    (.seq .n (.seq .n .n)) 1 (fun args h => by kernel_rfl)
/-- roundhouse/wire.Text -/
noncomputable def F243 (S : FS) (D : FD) (args : List AV) (h : Heap) : Option (Bool × AV × Heap) :=
 kv1 args fun s_1 =>
 ob (klenS s_1) fun v2 =>
 ob (kbinI .gtr v2 (.int .i64 (.ofNat 4096))) fun v3 =>
 kif v3
  ((some (false, (.str 0 0), h)))
  (ob (klenS s_1) fun v4 =>
  ob (S 241 [v4] h) fun r5 => kres r5 (fun v6 h7 =>
  ob (kbinS .add v6 s_1) fun v10 =>
  (some (false, v10, h7))) (fun p8 h9 => (some (true, p8, h9))))
theorem F243_ok {S : FS} {D : FD} (hS : SpecsOK Tryz.prog S) (hD : DynOK Tryz.prog D) : SpecOK Tryz.prog 243 (F243 S D) :=
  SpecOK.of (c := match Tryz.f243.body with | some c => c | none => .skip) (by kernel_rfl) hS hD ⟨Tryz.func243, rfl, by decide⟩
    (.seq .n (.seq (.seq .n (.dup (.seq .n .n) .n)) (.seq .n .n))) 1 (fun args h => by kernel_rfl)
/-- roundhouse/net.without[string] -/
noncomputable def F244 (S : FS) (D : FD) (args : List AV) (h : Heap) : Option (Bool × AV × Heap) :=
 kv2 args fun l_1 at_2 =>
 ob (kia 1 l_1 at_2) fun v3 =>
 ob (kload h v3) fun v4 =>
 ob (S 303 [l_1] h) fun r5 => kres r5 (fun v6 h7 =>
 ob (kbinI .add at_2 (.int .i64 (.ofNat 1))) fun v10 =>
 ob (S 302 [v6, at_2, v10] h7) fun r11 => kres r11 (fun v12 h13 =>
 (some (false, (.tuple [v12, v4]), h13))) (fun p14 h15 => (some (true, p14, h15)))) (fun p8 h9 => (some (true, p8, h9)))
theorem F244_ok {S : FS} {D : FD} (hS : SpecsOK Tryz.prog S) (hD : DynOK Tryz.prog D) : SpecOK Tryz.prog 244 (F244 S D) :=
  SpecOK.of (c := match Tryz.f244.body with | some c => c | none => .skip) (by kernel_rfl) hS hD ⟨Tryz.func244, rfl, by decide⟩
    (.seq .n (.seq .n (.seq .n .n))) 2 (fun args h => by kernel_rfl)
/-- (*roundhouse/ctl.job).started -/
noncomputable def F245 (S : FS) (D : FD) (args : List AV) (h : Heap) : Option (Bool × AV × Heap) :=
 kv3 args fun x_1 node_2 arg_3 =>
 ob (kbinI .eql arg_3 (.int .i64 (.ofNat 0))) fun v4 =>
 ob (kif v4
  (ob (knil x_1) fun v6 =>
  ob (kfa 9 v6) fun v7 =>
  ob (kload h v7) fun v8 =>
  ob (knil x_1) fun v9 =>
  ob (kfa 3 v9) fun v10 =>
  ob (kload h v10) fun v11 =>
  ob (amapSet Tryz.prog h 88 v8 node_2 v11) fun h12 =>
  ob (knil x_1) fun v13 =>
  ob (kfa 9 v13) fun v14 =>
  ob (kload h12 v14) fun v15 =>
  ob (klenM h12 v15) fun v16 =>
  ob (knil x_1) fun v17 =>
  ob (kfa 0 v17) fun v18 =>
  ob (kfa 0 v18) fun v19 =>
  ob (kload h12 v19) fun v20 =>
  ob (klenL v20) fun v21 =>
  ob (kbinI .eql v16 v21) fun v22 =>
  ob (kif v22
   (ob (knil x_1) fun v24 =>
   ob (kfa 4 v24) fun v25 =>
   ob (kstore 1 v25 (.int .i64 (.ofNat 1)) h12) fun h26 =>
   ob (S 204 [x_1] h26) fun r27 => kres r27 (fun v28 h29 =>
   (some ⟨0, [], [], h29⟩)) (fun p30 h31 => (some ⟨1, [p30], [], h31⟩)))
   ((some ⟨0, [], [], h12⟩))) fun r23 => kcase (J.i r23) [kv0 (J.vs r23) ((some ⟨0, [], (J.ds r23), (J.h r23)⟩)),
  kv1 (J.vs r23) fun p32 => (some ⟨1, [p32], (J.ds r23), (J.h r23)⟩)])
  (ob (knil x_1) fun v33 =>
  ob (kfa 3 v33) fun v34 =>
  ob (kload h v34) fun v35 =>
  ob (kbinI .lss v35 (.int .i64 (.ofNat 3))) fun v36 =>
  ob (kif v36
   (ob (S 272 [x_1, (.int .i64 (.ofNat 2)), (.int .i64 (.ofNat 0))] h) fun r38 => kres r38 (fun v39 h40 =>
   (some ⟨0, [], [], h40⟩)) (fun p41 h42 => (some ⟨1, [p41], [], h42⟩)))
   (ob (S 272 [x_1, (.int .i64 (.ofNat 1)), (.int .i64 (.ofNat 0))] h) fun r43 => kres r43 (fun v44 h45 =>
   (some ⟨0, [], [], h45⟩)) (fun p46 h47 => (some ⟨1, [p46], [], h47⟩)))) fun r37 => kcase (J.i r37) [kv0 (J.vs r37) ((some ⟨0, [], (J.ds r37), (J.h r37)⟩)),
  kv1 (J.vs r37) fun p48 => (some ⟨1, [p48], (J.ds r37), (J.h r37)⟩)])) fun r5 => kcase (J.i r5) [kv0 (J.vs r5) ((dleave (fun h49 => (some (false, (.tuple []), h49))) (J.ds r5) (J.h r5))),
 kv1 (J.vs r5) fun p50 => (kds (J.ds r5) (some (true, p50, (J.h r5))))]
theorem F245_ok {S : FS} {D : FD} (hS : SpecsOK Tryz.prog S) (hD : DynOK Tryz.prog D) : SpecOK Tryz.prog 245 (F245 S D) :=
  SpecOK.of (c := match Tryz.f245.body with | some c => c | none => .skip) (by kernel_rfl) hS hD ⟨Tryz.func245, rfl, by decide⟩
    (.one (.seq .n (.join [(.norm, []), (.pan, [])] (.dup (.seq .n (.seq .n (.join [(.norm, []), (.pan, [])] (.dup (.seq .n .n) .n)))) (.seq .n (.join [(.norm, []), (.pan, [])] (.dup .n .n))))))) 3 (fun args h => by kernel_rfl)
/-- (*roundhouse/ctl.job).said -/
noncomputable def F246 (S : FS) (D : FD) (args : List AV) (h : Heap) : Option (Bool × AV × Heap) :=
 kv2 args fun x_1 m_2 =>
 knt m_2 (Heap.pushK h (.cells (AV.cells m_2) true 300) fun h3 =>
 ob (kfa 5 (.ptr (Heap.next h) 0)) fun v4 =>
 ob (kload h3 v4) fun v5 =>
 ob (knil x_1) fun v6 =>
 ob (kfa 8 v6) fun v7 =>
 ob (kload h3 v7) fun v8 =>
 ob (klenL v8) fun v9 =>
 ob (kbinI .geq v5 v9) fun v10 =>
 ob (kgv false v10 (some x_1)) fun v11 =>
 ob (kgv false v10 (knil v11)) fun v12 =>
 ob (kgv false v10 (kfa 8 v12)) fun v13 =>
 ob (kgv false v10 (kload h3 v13)) fun v14 =>
 ob (kgv false v10 (kfa 5 (.ptr (Heap.next h) 0))) fun v15 =>
 ob (kgv false v10 (kload h3 v15)) fun v16 =>
 ob (kgv false v10 (kia 1 v14 v16)) fun v17 =>
 ob (kgv false v10 (kload h3 v17)) fun v18 =>
 ob (kgv false v10 (kbinO Tryz.prog .eql 119 true v18 AV.nilptr)) fun v19 =>
 ob (kpick v10 (.bool true) v19) fun v20 =>
 kif v20
  ((some (false, (.bool false), h3)))
  (ob (knil x_1) fun v21 =>
  ob (kfa 8 v21) fun v22 =>
  ob (kload h3 v22) fun v23 =>
  ob (kfa 5 (.ptr (Heap.next h) 0)) fun v24 =>
  ob (kload h3 v24) fun v25 =>
  ob (kia 1 v23 v25) fun v26 =>
  ob (kload h3 v26) fun v27 =>
  ob (kfa 0 (.ptr (Heap.next h) 0)) fun v28 =>
  ob (kload h3 v28) fun v29 =>
  ob (kbinI .eql v29 (.int .i64 (.ofNat 3))) fun v30 =>
  ob (kif v30
   (ob (kfa 1 (.ptr (Heap.next h) 0)) fun v32 =>
   ob (kload h3 v32) fun v33 =>
   ob (kfa 6 (.ptr (Heap.next h) 0)) fun v34 =>
   ob (kload h3 v34) fun v35 =>
   ob (kbinI .eql v35 (.int .i64 (.ofNat 1))) fun v36 =>
   ob (S 304 [v27, v33, v36] h3) fun r37 => kres r37 (fun v38 h39 =>
   (some ⟨0, [x_1, v38], [], h39⟩)) (fun p40 h41 => (some ⟨1, [p40], [], h41⟩)))
   (ob (kfa 1 (.ptr (Heap.next h) 0)) fun v42 =>
   ob (kload h3 v42) fun v43 =>
   ob (kfa 6 (.ptr (Heap.next h) 0)) fun v44 =>
   ob (kload h3 v44) fun v45 =>
   ob (S 305 [v27, v43, v45] h3) fun r46 => kres r46 (fun v47 h48 =>
   (some ⟨0, [x_1, v47], [], h48⟩)) (fun p49 h50 => (some ⟨1, [p49], [], h50⟩)))) fun r31 => kcase (J.i r31) [kv2 (J.vs r31) fun x_51 e_52 =>
   ob (kbinI .neq e_52 (.int .i64 (.ofNat 0))) fun v53 =>
   kif v53
    ((dleave (fun h54 => (some (false, (.bool false), h54))) (J.ds r31) (J.h r31)))
    (ob (S 204 [x_51] (J.h r31)) fun r55 => kres r55 (fun v56 h57 =>
    (dleave (fun h60 => (some (false, (.bool true), h60))) (J.ds r31) h57)) (fun p58 h59 => (kds (J.ds r31) (some (true, p58, h59))))),
  kv1 (J.vs r31) fun p61 => (kds (J.ds r31) (some (true, p61, (J.h r31))))]))
theorem F246_ok {S : FS} {D : FD} (hS : SpecsOK Tryz.prog S) (hD : DynOK Tryz.prog D) : SpecOK Tryz.prog 246 (F246 S D) :=
  SpecOK.of (c := match Tryz.f246.body with | some c => c | none => .skip) (by kernel_rfl) hS hD ⟨Tryz.func246, rfl, by decide⟩
    (.seq .n (.seq (.seq .n (.dup (.seq .n .n) .n)) (.seq .n (.seq .n (.seq (.seq .n (.join [(.norm, [0, 6]), (.pan, [])] (.dup .n .n))) (.seq (.seq .n (.dup (.seq .n .n) .n)) (.seq .n (.seq .n .n)))))))) 2 (fun args h => by kernel_rfl)
/-- (*roundhouse/ctl.job).left -/
noncomputable def F247 (S : FS) (D : FD) (args : List AV) (h : Heap) : Option (Bool × AV × Heap) :=
 kv2 args fun x_1 node_2 =>
 ob (knil x_1) fun v3 =>
 ob (kfa 10 v3) fun v4 =>
 ob (kload h v4) fun v5 =>
 ob (knil x_1) fun v6 =>
 ob (kfa 3 v6) fun v7 =>
 ob (kload h v7) fun v8 =>
 ob (amapSet Tryz.prog h 88 v5 node_2 v8) fun h9 =>
 ob (knil x_1) fun v10 =>
 ob (kfa 10 v10) fun v11 =>
 ob (kload h9 v11) fun v12 =>
 ob (klenM h9 v12) fun v13 =>
 ob (knil x_1) fun v14 =>
 ob (kfa 0 v14) fun v15 =>
 ob (kfa 0 v15) fun v16 =>
 ob (kload h9 v16) fun v17 =>
 ob (klenL v17) fun v18 =>
 ob (kbinI .lss v13 v18) fun v19 =>
 ob (kif v19
  ((some ⟨0, [], [], h9⟩))
  (ob (knil x_1) fun v21 =>
  ob (kfa 5 v21) fun v22 =>
  ob (kload h9 v22) fun v23 =>
  ob (kbinI .eql v23 (.int .i64 (.ofNat 2))) fun v24 =>
  ob (kif v24
   (ob (knil x_1) fun v26 =>
   ob (kfa 3 v26) fun v27 =>
   ob (kload h9 v27) fun v28 =>
   ob (kbinI .add v28 (.int .i64 (.ofNat 1))) fun v29 =>
   ob (knil x_1) fun v30 =>
   ob (kfa 3 v30) fun v31 =>
   ob (kstore 1 v31 v29 h9) fun h32 =>
   ob (S 184 [x_1] h32) fun r33 => kres r33 (fun v34 h35 =>
   (some ⟨0, [], [], h35⟩)) (fun p36 h37 => (some ⟨1, [p36], [], h37⟩)))
   (ob (knil x_1) fun v38 =>
   ob (kfa 4 v38) fun v39 =>
   ob (kstore 1 v39 (.int .i64 (.ofNat 3)) h9) fun h40 =>
   (some ⟨0, [], [], h40⟩))) fun r25 => kcase (J.i r25) [kv0 (J.vs r25) ((some ⟨0, [], (J.ds r25), (J.h r25)⟩)),
  kv1 (J.vs r25) fun p41 => (some ⟨1, [p41], (J.ds r25), (J.h r25)⟩)])) fun r20 => kcase (J.i r20) [kv0 (J.vs r20) ((dleave (fun h42 => (some (false, (.tuple []), h42))) (J.ds r20) (J.h r20))),
 kv1 (J.vs r20) fun p43 => (kds (J.ds r20) (some (true, p43, (J.h r20))))]
theorem F247_ok {S : FS} {D : FD} (hS : SpecsOK Tryz.prog S) (hD : DynOK Tryz.prog D) : SpecOK Tryz.prog 247 (F247 S D) :=
  SpecOK.of (c := match Tryz.f247.body with | some c => c | none => .skip) (by kernel_rfl) hS hD ⟨Tryz.func247, rfl, by decide⟩
    (.seq .n (.one (.seq .n (.join [(.norm, []), (.pan, [])] (.dup .n (.seq .n (.join [(.norm, []), (.pan, [])] (.dup (.seq .n .n) .n)))))))) 2 (fun args h => by kernel_rfl)
/-- roundhouse/node.Asks -/
noncomputable def F248 (S : FS) (D : FD) (args : List AV) (h : Heap) : Option (Bool × AV × Heap) :=
 kv2 args fun s_1 m_2 =>
 knt s_1 (Heap.pushK h (.cells (AV.cells s_1) true 85) fun h3 =>
 knt m_2 (Heap.pushK h3 (.cells (AV.cells m_2) true 300) fun h4 =>
 ob (kfa 2 (.ptr (Heap.next h3) 0)) fun v5 =>
 ob (kload h4 v5) fun v6 =>
 ob (kloadN 3 h4 (.ptr (Heap.next h) 0)) fun v7 =>
 ob (kloadN 8 h4 (.ptr (Heap.next h3) 0)) fun v8 =>
 ob (S 306 [v6, v7, v8] h4) fun r9 => kres r9 (fun v10 h11 =>
 ob (kfa 0 (.ptr (Heap.next h3) 0)) fun v14 =>
 ob (kload h11 v14) fun v15 =>
 ob (kbinI .eql v15 (.int .i64 (.ofNat 2))) fun v16 =>
 ob (kgv true v16 (kfa 1 (.ptr (Heap.next h3) 0))) fun v17 =>
 ob (kgv true v16 (kload h11 v17)) fun v18 =>
 ob (kgv true v16 (kbinI .eql v18 (.int .i64 (.negSucc 0)))) fun v19 =>
 ob (kpick v16 v19 (.bool false)) fun v20 =>
 ob (kgv true v20 (kfa 2 (.ptr (Heap.next h3) 0))) fun v21 =>
 ob (kgv true v20 (kload h11 v21)) fun v22 =>
 ob (kgc true v20 h11 (S 307 [v22, (.int .i64 (.ofNat 0)), (.int .i64 (.ofNat 15))] h11)) fun r23 => kres r23 (fun v24 h25 =>
 ob (kpick v20 v24 (.bool false)) fun v28 =>
 ob (kgv true v28 (some v10)) fun v29 =>
 ob (kgv true v28 (knil v29)) fun v30 =>
 ob (kgv true v28 (kfa 22 v30)) fun v31 =>
 ob (kgv true v28 (kload h25 v31)) fun v32 =>
 ob (kgv true v28 (aun .not v32)) fun v33 =>
 ob (kpick v28 v33 (.bool false)) fun v34 =>
 ob (kgv true v34 (some v10)) fun v35 =>
 ob (kgc true v34 h25 (S 308 [v35] h25)) fun r36 => kres r36 (fun v37 h38 =>
 ob (kpick v34 v37 (.bool false)) fun v41 =>
 (some (false, v41, h38))) (fun p39 h40 => (some (true, p39, h40)))) (fun p26 h27 => (some (true, p26, h27)))) (fun p12 h13 => (some (true, p12, h13)))))
theorem F248_ok {S : FS} {D : FD} (hS : SpecsOK Tryz.prog S) (hD : DynOK Tryz.prog D) : SpecOK Tryz.prog 248 (F248 S D) :=
  SpecOK.of (c := match Tryz.f248.body with | some c => c | none => .skip) (by kernel_rfl) hS hD ⟨Tryz.func248, rfl, by decide⟩
    (.seq .n (.seq .n (.seq .n .n))) 2 (fun args h => by kernel_rfl)
/-- (*roundhouse/agent.Agent).admit -/
noncomputable def F249 (S : FS) (D : FD) (args : List AV) (h : Heap) : Option (Bool × AV × Heap) :=
 kv3 args fun a_1 m_2 fail_3 =>
 knt m_2 (Heap.pushK h (.cells (AV.cells m_2) true 300) fun h4 =>
 Heap.pushK h4 (.cells [(.int .i64 (.ofNat 0)), AV.nilslice, (.int .i64 (.ofNat 0)), (.bool false)] true 358) fun h5 =>
 ob (kfa 7 (.ptr (Heap.next h) 0)) fun v6 =>
 ob (kload h5 v6) fun v7 =>
 ob (S 309 [v7] h5) fun r8 => kres r8 (fun v9 h10 =>
 ob (aextract v9 0) fun v13 =>
 ob (aextract v9 1) fun v14 =>
 Heap.pushK h10 (.cells [(.str 0 0), (.int .i64 (.ofNat 0)), (.int .i64 (.ofNat 0)), (.int .i64 (.ofNat 0)), (.int .i64 (.ofNat 0))] true 409) fun h15 =>
 ob (kstore 5 (.ptr (Heap.next h10) 0) v13 h15) fun h16 =>
 ob (kbinI .neq v14 (.int .i64 (.ofNat 0))) fun v17 =>
 ob (kgv false v17 (kfa 5 (.ptr (Heap.next h) 0))) fun v18 =>
 ob (kgv false v17 (kload h16 v18)) fun v19 =>
 ob (kgv false v17 (kbinI .geq v19 (.int .i64 (.ofNat 16)))) fun v20 =>
 ob (kpick v17 (.bool true) v20) fun v21 =>
 ob (kgv false v21 (kfa 3 (.ptr (Heap.next h) 0))) fun v22 =>
 ob (kgv false v21 (kload h16 v22)) fun v23 =>
 ob (kgv false v21 (kbinI .gtr v23 (.int .i64 (.ofNat 1048576)))) fun v24 =>
 ob (kpick v21 (.bool true) v24) fun v25 =>
 kif v25
  (ob (abuild Tryz.prog 358 [(0, (.int .i64 (.ofNat 1)))]) fun v26 =>
  ob (kstore 4 (.ptr (Heap.next h4) 0) v26 h16) fun h27 =>
  ob (kloadN 4 h27 (.ptr (Heap.next h4) 0)) fun v28 => (some (false, v28, h27)))
  (ob (knil a_1) fun v29 =>
  ob (kfa 5 v29) fun v30 =>
  ob (kfa 3 v30) fun v31 =>
  ob (kload h16 v31) fun v32 =>
  ob (kfa 0 (.ptr (Heap.next h10) 0)) fun v33 =>
  ob (kload h16 v33) fun v34 =>
  kfree h16 (Heap.pushK h16 (.cells [(.int .i64 (.ofNat 0)), (.int .i64 (.ofNat 0)), (.int .i64 (.ofNat 0)), (.int .i64 (.ofNat 0)), (.int .i64 (.ofNat 0)), AV.nilslice, (.int .i64 (.ofNat 0))] true 413) fun h35 =>
  ob (S 310 [v32, v34] h35) fun r36 => kres r36 (fun v37 h38 =>
  kro (Heap.next h16) h35 h38 (ob (aextract v37 0) fun v41 =>
  ob (aextract v37 1) fun v42 =>
  ob (kstore 7 (.ptr (Heap.next h16) 0) v41 h38) fun h43 =>
  ob (kbinI .eql v42 (.int .i64 (.ofNat 0))) fun v44 =>
  ob (kif v44
   (ob (kloadN 7 h43 (.ptr (Heap.next h16) 0)) fun v46 =>
   ob (kfa 3 (.ptr (Heap.next h) 0)) fun v47 =>
   ob (kload h43 v47) fun v48 =>
   ob (kfa 4 (.ptr (Heap.next h) 0)) fun v49 =>
   ob (kload h43 v49) fun v50 =>
   ob (kfa 5 (.ptr (Heap.next h) 0)) fun v51 =>
   ob (kload h43 v51) fun v52 =>
   ob (knil a_1) fun v53 =>
   ob (kfa 5 v53) fun v54 =>
   ob (kfa 0 v54) fun v55 =>
   ob (kload h43 v55) fun v56 =>
   ob (kfa 1 (.ptr (Heap.next h10) 0)) fun v57 =>
   ob (kload h43 v57) fun v58 =>
   ob (kfa 2 (.ptr (Heap.next h10) 0)) fun v59 =>
   ob (kload h43 v59) fun v60 =>
   ob (kbinI .mul v58 v60) fun v61 =>
   ob (knil a_1) fun v62 =>
   ob (kfa 0 v62) fun v63 =>
   ob (kfa 4 v63) fun v64 =>
   ob (kload h43 v64) fun v65 =>
   ob (abuild Tryz.prog 418 [(0, v48), (1, v50), (2, v52), (3, v56), (4, v61), (5, v65)]) fun v66 =>
   ob (S 311 [v46, v66] h43) fun r67 => kres r67 (fun v68 h69 =>
   (some ⟨0, [a_1, fail_3, (.ptr (Heap.next h) 0), (.ptr (Heap.next h4) 0), (.ptr (Heap.next h10) 0), v68, (.ptr (Heap.next h16) 0)], [], h69⟩)) (fun p70 h71 => (some ⟨1, [p70], [], h71⟩)))
   ((some ⟨0, [a_1, fail_3, (.ptr (Heap.next h) 0), (.ptr (Heap.next h4) 0), (.ptr (Heap.next h10) 0), v42, (.ptr (Heap.next h16) 0)], [], h43⟩))) fun r45 => kcase (J.i r45) [kv7 (J.vs r45) fun a_72 fail_73 m_74 v75 o_76 e_77 x_78 =>
   ob (kbinI .eql e_77 (.int .i64 (.ofNat 0))) fun v79 =>
   ob (kif v79
    (ob (knil a_72) fun v81 =>
    ob (kfa 16 v81) fun v82 =>
    ob (kload (J.h r45) v82) fun v83 =>
    ob (kloadN 7 (J.h r45) x_78) fun v84 =>
    ob (knil a_72) fun v85 =>
    ob (kfa 0 v85) fun v86 =>
    ob (kfa 4 v86) fun v87 =>
    ob (kload (J.h r45) v87) fun v88 =>
    ob (S 312 [v83, v84, v88] (J.h r45)) fun r89 => kres r89 (fun v90 h91 =>
    (some ⟨0, [a_72, fail_73, m_74, v75, o_76, v90], (J.ds r45), h91⟩)) (fun p92 h93 => (some ⟨1, [p92], (J.ds r45), h93⟩)))
    ((some ⟨0, [a_72, fail_73, m_74, v75, o_76, e_77], (J.ds r45), (J.h r45)⟩))) fun r80 => kcase (J.i r80) [kv6 (J.vs r80) fun a_94 fail_95 m_96 v97 o_98 e_99 =>
    ob (kbinI .neq e_99 (.int .i64 (.ofNat 0))) fun v100 =>
    kif v100
     (ob (abuild Tryz.prog 358 [(0, e_99)]) fun v101 =>
     ob (kstore 4 v97 v101 (J.h r80)) fun h102 =>
     (dleave (fun h103 => ob (kloadN 4 h103 v97) fun v104 => (some (false, v104, h103))) (J.ds r80) h102))
     (ob (kfa 3 m_96) fun v105 =>
     ob (kload (J.h r80) v105) fun v106 =>
     ob (kfa 4 m_96) fun v107 =>
     ob (kload (J.h r80) v107) fun v108 =>
     ob (kfa 5 m_96) fun v109 =>
     ob (kload (J.h r80) v109) fun v110 =>
     ob (S 290 [v106, v108, v110] (J.h r80)) fun r111 => kres r111 (fun v112 h113 =>
     ob (knil a_94) fun v116 =>
     ob (kfa 15 v116) fun v117 =>
     ob (kload h113 v117) fun v118 =>
     ob (kfa 1 o_98) fun v119 =>
     ob (kload h113 v119) fun v120 =>
     ob (kfa 2 o_98) fun v121 =>
     ob (kload h113 v121) fun v122 =>
     ob (kfa 3 o_98) fun v123 =>
     ob (kload h113 v123) fun v124 =>
     ob (abuild Tryz.prog 424 [(1, v120), (2, v122), (3, v124)]) fun v125 =>
     ob (S 313 [v118, v112, v125] h113) fun r126 => kres r126 (fun v127 h128 =>
     ob (aextract v127 0) fun v131 =>
     ob (aextract v127 1) fun v132 =>
     ob (kbinI .neq v132 (.int .i64 (.ofNat 0))) fun v133 =>
     kif v133
      (ob (abuild Tryz.prog 358 [(0, (.int .i64 (.ofNat 12)))]) fun v134 =>
      ob (kstore 4 v97 v134 h128) fun h135 =>
      (dleave (fun h136 => ob (kloadN 4 h136 v97) fun v137 => (some (false, v137, h136))) (J.ds r80) h135))
      (ob (kloadN 8 h128 m_96) fun v138 =>
      ob (kloadN 5 h128 o_98) fun v139 =>
      ob (S 314 [a_94, v138, v139, v131, fail_95] h128) fun r140 => kres r140 (fun v141 h142 =>
      ob (kbinO Tryz.prog .eql 37 true v141 AV.nilslice) fun v145 =>
      kif v145
       (ob (knil a_94) fun v146 =>
       ob (kfa 15 v146) fun v147 =>
       ob (kload h142 v147) fun v148 =>
       ob (S 266 [v148, v112] h142) fun r149 => kres r149 (fun v150 h151 =>
       ob (abuild Tryz.prog 358 [(0, (.int .i64 (.ofNat 13)))]) fun v154 =>
       ob (kstore 4 v97 v154 h151) fun h155 =>
       (dleave (fun h156 => ob (kloadN 4 h156 v97) fun v157 => (some (false, v157, h156))) (J.ds r80) h155)) (fun p152 h153 => (kds (J.ds r80) (some (true, p152, h153)))))
       (ob (abuild Tryz.prog 358 [(1, v141)]) fun v158 =>
       ob (kstore 4 v97 v158 h142) fun h159 =>
       (dleave (fun h160 => ob (kloadN 4 h160 v97) fun v161 => (some (false, v161, h160))) (J.ds r80) h159))) (fun p143 h144 => (kds (J.ds r80) (some (true, p143, h144)))))) (fun p129 h130 => (kds (J.ds r80) (some (true, p129, h130))))) (fun p114 h115 => (kds (J.ds r80) (some (true, p114, h115))))),
   kv1 (J.vs r80) fun p162 => (kds (J.ds r80) (some (true, p162, (J.h r80))))],
  kv1 (J.vs r45) fun p163 => (kds (J.ds r45) (some (true, p163, (J.h r45))))])) (fun p39 h40 => none)))) (fun p11 h12 => (some (true, p11, h12))))
theorem F249_ok {S : FS} {D : FD} (hS : SpecsOK Tryz.prog S) (hD : DynOK Tryz.prog D) : SpecOK Tryz.prog 249 (F249 S D) :=
  SpecOK.of (c := match Tryz.f249.body with | some c => c | none => .skip) (by kernel_rfl) hS hD ⟨Tryz.func249, rfl, by decide⟩
    (.seq .n (.seq .n (.seq (.seq .n (.dup (.seq .n .n) .n)) (.seq .n (.seq (.seq .n (.join [(.norm, [0, 2, 4, 6, 7, 8, 9]), (.pan, [])] (.dup .n .n))) (.seq (.seq .n (.join [(.norm, [0, 2, 4, 6, 7, 8]), (.pan, [])] (.dup .n .n))) (.seq (.seq .n (.dup (.seq .n .n) .n)) (.seq .n (.seq .n (.seq (.seq .n (.dup (.seq .n .n) .n)) (.seq .n (.seq (.seq .n (.dup (.seq .n (.seq .n .n)) .n)) (.seq .n .n))))))))))))) 3 (fun args h => by kernel_rfl)
/-- (*roundhouse/agent.Agent).busy -/
noncomputable def F250 (S : FS) (D : FD) (args : List AV) (h : Heap) : Option (Bool × AV × Heap) :=
 kv2 args fun a_1 m_2 =>
 knt m_2 (Heap.pushK h (.cells (AV.cells m_2) true 300) fun h3 =>
 ob (knil a_1) fun v4 =>
 ob (kfa 0 v4) fun v5 =>
 ob (kfa 1 v5) fun v6 =>
 ob (kload h3 v6) fun v7 =>
 ob (S 23 [v7] h3) fun r8 => kres r8 (fun v9 h10 =>
 ob (S 315 [v9, (.func 316 [(.ptr (Heap.next h) 0)])] h10) fun r13 => kres r13 (fun v14 h15 =>
 (some (false, v14, h15))) (fun p16 h17 => (some (true, p16, h17)))) (fun p11 h12 => (some (true, p11, h12))))
theorem F250_ok {S : FS} {D : FD} (hS : SpecsOK Tryz.prog S) (hD : DynOK Tryz.prog D) : SpecOK Tryz.prog 250 (F250 S D) :=
  SpecOK.of (c := match Tryz.f250.body with | some c => c | none => .skip) (by kernel_rfl) hS hD ⟨Tryz.func250, rfl, by decide⟩
    (.seq .n (.seq .n .n)) 2 (fun args h => by kernel_rfl)
/-- roundhouse/node.Decide -/
noncomputable def F251 (S : FS) (D : FD) (args : List AV) (h : Heap) : Option (Bool × AV × Heap) :=
 kv4 args fun id_1 s_2 m_3 f_4 =>
 knt s_2 (Heap.pushK h (.cells (AV.cells s_2) true 85) fun h5 =>
 knt m_3 (Heap.pushK h5 (.cells (AV.cells m_3) true 300) fun h6 =>
 knt f_4 (Heap.pushK h6 (.cells (AV.cells f_4) true 358) fun h7 =>
 Heap.pushK h7 (.cells [(.bool false), (.int .i64 (.ofNat 0)), (.int .i64 (.ofNat 0)), (.int .i64 (.ofNat 0)), (.int .i64 (.ofNat 0)), (.int .i64 (.ofNat 0)), AV.nilslice, (.bool false), (.int .i64 (.ofNat 0)), (.int .i64 (.ofNat 0)), (.int .i64 (.ofNat 0)), (.int .i64 (.ofNat 0)), (.int .i64 (.ofNat 0)), (.int .i64 (.ofNat 0)), (.int .i64 (.ofNat 0)), (.str 0 0), (.bool false), (.bool false), (.bool false)] true 362) fun h8 =>
 ob (S 307 [id_1, (.int .i64 (.ofNat 0)), (.int .i64 (.ofNat 15))] h8) fun r9 => kres r9 (fun v10 h11 =>
 ob (aun .not v10) fun v14 =>
 ob (kgv false v14 (kfa 2 (.ptr (Heap.next h6) 0))) fun v15 =>
 ob (kgv false v14 (kload h11 v15)) fun v16 =>
 ob (kgc false v14 h11 (S 307 [v16, (.int .i64 (.ofNat 0)), (.int .i64 (.ofNat 255))] h11)) fun r17 => kres r17 (fun v18 h19 =>
 ob (kgv false v14 (aun .not v18)) fun v22 =>
 ob (kpick v14 (.bool true) v22) fun v23 =>
 ob (kgv false v23 (kfa 1 (.ptr (Heap.next h5) 0))) fun v24 =>
 ob (kgv false v23 (kload h19 v24)) fun v25 =>
 ob (kgv false v23 (kbinI .neq v25 (.int .i64 (.negSucc 0)))) fun v26 =>
 ob (kpick v23 (.bool true) v26) fun v27 =>
 ob (kgv false v27 (kfa 2 (.ptr (Heap.next h5) 0))) fun v28 =>
 ob (kgv false v27 (kload h19 v28)) fun v29 =>
 ob (kgv false v27 (some id_1)) fun v30 =>
 ob (kgv false v27 (kbinI .neq v29 v30)) fun v31 =>
 ob (kpick v27 (.bool true) v31) fun v32 =>
 kif v32
  (ob (abuild Tryz.prog 362 []) fun v33 =>
  ob (kstore 19 (.ptr (Heap.next h7) 0) v33 h19) fun h34 =>
  ob (kloadN 19 h34 (.ptr (Heap.next h7) 0)) fun v35 => (some (false, (.tuple [v35, (.int .i64 (.ofNat 1))]), h34)))
  (ob (kloadN 3 h19 (.ptr (Heap.next h) 0)) fun v36 =>
  ob (kloadN 8 h19 (.ptr (Heap.next h5) 0)) fun v37 =>
  ob (S 306 [id_1, v36, v37] h19) fun r38 => kres r38 (fun v39 h40 =>
  ob (kfa 0 (.ptr (Heap.next h5) 0)) fun v43 =>
  ob (kload h40 v43) fun v44 =>
  ob (kbinI .eql v44 (.int .i64 (.ofNat 0))) fun v45 =>
  kif v45
   (ob (kloadN 4 h40 (.ptr (Heap.next h6) 0)) fun v46 =>
   ob (S 317 [v39, v46] h40) fun r47 => kres r47 (fun v48 h49 =>
   ob (kstore 19 (.ptr (Heap.next h7) 0) v48 h49) fun h52 =>
   ob (kloadN 19 h52 (.ptr (Heap.next h7) 0)) fun v53 => (some (false, (.tuple [v53, (.int .i64 (.ofNat 0))]), h52))) (fun p50 h51 => (some (true, p50, h51))))
   (ob (kbinI .eql v44 (.int .i64 (.ofNat 2))) fun v54 =>
   kif v54
    (ob (kloadN 4 h40 (.ptr (Heap.next h6) 0)) fun v55 =>
    ob (S 318 [v39, v55] h40) fun r56 => kres r56 (fun v57 h58 =>
    ob (kstore 19 (.ptr (Heap.next h7) 0) v57 h58) fun h61 =>
    ob (kloadN 19 h61 (.ptr (Heap.next h7) 0)) fun v62 => (some (false, (.tuple [v62, (.int .i64 (.ofNat 0))]), h61))) (fun p59 h60 => (some (true, p59, h60))))
    (ob (kbinI .eql v44 (.int .i64 (.ofNat 4))) fun v63 =>
    kif v63
     (ob (S 319 [v39] h40) fun r64 => kres r64 (fun v65 h66 =>
     ob (kstore 19 (.ptr (Heap.next h7) 0) v65 h66) fun h69 =>
     ob (kloadN 19 h69 (.ptr (Heap.next h7) 0)) fun v70 => (some (false, (.tuple [v70, (.int .i64 (.ofNat 0))]), h69))) (fun p67 h68 => (some (true, p67, h68))))
     (ob (kbinI .eql v44 (.int .i64 (.ofNat 5))) fun v71 =>
     kif v71
      (ob (S 320 [v39] h40) fun r72 => kres r72 (fun v73 h74 =>
      ob (kstore 19 (.ptr (Heap.next h7) 0) v73 h74) fun h77 =>
      ob (kloadN 19 h77 (.ptr (Heap.next h7) 0)) fun v78 => (some (false, (.tuple [v78, (.int .i64 (.ofNat 0))]), h77))) (fun p75 h76 => (some (true, p75, h76))))
      (ob (kbinI .eql v44 (.int .i64 (.ofNat 7))) fun v79 =>
      kif v79
       (ob (S 321 [v39, (.int .i64 (.ofNat 1))] h40) fun r80 => kres r80 (fun v81 h82 =>
       ob (abuild Tryz.prog 362 [(6, v81)]) fun v85 =>
       ob (kstore 19 (.ptr (Heap.next h7) 0) v85 h82) fun h86 =>
       ob (kloadN 19 h86 (.ptr (Heap.next h7) 0)) fun v87 => (some (false, (.tuple [v87, (.int .i64 (.ofNat 0))]), h86))) (fun p83 h84 => (some (true, p83, h84))))
       (ob (kbinI .eql v44 (.int .i64 (.ofNat 8))) fun v88 =>
       kif v88
        (ob (kloadN 4 h40 (.ptr (Heap.next h6) 0)) fun v89 =>
        ob (S 322 [v39, v89] h40) fun r90 => kres r90 (fun v91 h92 =>
        ob (kstore 19 (.ptr (Heap.next h7) 0) v91 h92) fun h95 =>
        ob (kloadN 19 h95 (.ptr (Heap.next h7) 0)) fun v96 => (some (false, (.tuple [v96, (.int .i64 (.ofNat 0))]), h95))) (fun p93 h94 => (some (true, p93, h94))))
        (ob (abuild Tryz.prog 362 []) fun v97 =>
        ob (kstore 19 (.ptr (Heap.next h7) 0) v97 h40) fun h98 =>
        ob (kloadN 19 h98 (.ptr (Heap.next h7) 0)) fun v99 => (some (false, (.tuple [v99, (.int .i64 (.ofNat 5))]), h98))))))))) (fun p41 h42 => (some (true, p41, h42))))) (fun p20 h21 => (some (true, p20, h21)))) (fun p12 h13 => (some (true, p12, h13))))))
theorem F251_ok {S : FS} {D : FD} (hS : SpecsOK Tryz.prog S) (hD : DynOK Tryz.prog D) : SpecOK Tryz.prog 251 (F251 S D) :=
  SpecOK.of (c := match Tryz.f251.body with | some c => c | none => .skip) (by kernel_rfl) hS hD ⟨Tryz.func251, rfl, by decide⟩
    (.seq .n (.seq (.seq .n (.dup (.seq .n .n) .n)) (.seq .n (.seq (.seq .n (.one (.seq .n (.dup (.seq .n .n) (.seq .n (.dup (.seq .n .n) (.seq .n (.dup (.seq .n .n) (.seq .n (.dup (.seq .n .n) (.seq .n (.dup (.seq .n .n) (.seq .n (.dup (.seq .n .n) .n)))))))))))))) (.seq .n .n))))) 4 (fun args h => by kernel_rfl)
/-- (*roundhouse/agent.Agent).write -/
noncomputable def F252 (S : FS) (D : FD) (args : List AV) (h : Heap) : Option (Bool × AV × Heap) :=
 kv3 args fun a_1 r_2 tear_3 =>
 knt r_2 (Heap.pushK h (.cells (AV.cells r_2) true 167) fun h4 =>
 ob (kloadN 6 h4 (.ptr (Heap.next h) 0)) fun v5 =>
 ob (S 323 [v5] h4) fun r6 => kres r6 (fun v7 h8 =>
 ob (kbinI .geq tear_3 (.int .i64 (.ofNat 0))) fun v11 =>
 kif v11
  (ob (knil a_1) fun v12 =>
  ob (kfa 0 v12) fun v13 =>
  ob (kfa 0 v13) fun v14 =>
  ob (kload h8 v14) fun v15 =>
  ob (S 324 [v15, (.int .i64 (.ofNat 0)), v7, tear_3] h8) fun r16 => kres r16 (fun v17 h18 =>
  ob (knil a_1) fun v21 =>
  ob (kfa 0 v21) fun v22 =>
  ob (kfa 0 v22) fun v23 =>
  ob (kstore 1 v23 v17 h18) fun h24 =>
  ob (S 139 [a_1] h24) fun r25 => kres r25 (fun v26 h27 =>
  (some (false, (.bool false), h27))) (fun p28 h29 => (some (true, p28, h29)))) (fun p19 h20 => (some (true, p19, h20))))
  (ob (knil a_1) fun v30 =>
  ob (kfa 0 v30) fun v31 =>
  ob (kfa 0 v31) fun v32 =>
  ob (kload h8 v32) fun v33 =>
  ob (S 325 [v33, (.int .i64 (.ofNat 0)), v7] h8) fun r34 => kres r34 (fun v35 h36 =>
  ob (aextract v35 0) fun v39 =>
  ob (aextract v35 1) fun v40 =>
  ob (knil a_1) fun v41 =>
  ob (kfa 0 v41) fun v42 =>
  ob (kfa 0 v42) fun v43 =>
  ob (kstore 1 v43 v39 h36) fun h44 =>
  ob (knil a_1) fun v45 =>
  ob (kfa 12 v45) fun v46 =>
  ob (kloadN 3 h44 v46) fun v47 =>
  ob (kloadN 6 h44 (.ptr (Heap.next h) 0)) fun v48 =>
  ob (S 111 [v47, v48] h44) fun r49 => kres r49 (fun v50 h51 =>
  ob (aextract v50 0) fun v54 =>
  ob (aextract v50 1) fun v55 =>
  ob (knil a_1) fun v56 =>
  ob (kfa 12 v56) fun v57 =>
  ob (kstore 3 v57 v54 h51) fun h58 =>
  (some (false, (.bool true), h58))) (fun p52 h53 => none)) (fun p37 h38 => (some (true, p37, h38))))) (fun p9 h10 => (some (true, p9, h10))))
theorem F252_ok {S : FS} {D : FD} (hS : SpecsOK Tryz.prog S) (hD : DynOK Tryz.prog D) : SpecOK Tryz.prog 252 (F252 S D) :=
  SpecOK.of (c := match Tryz.f252.body with | some c => c | none => .skip) (by kernel_rfl) hS hD ⟨Tryz.func252, rfl, by decide⟩
    (.seq .n (.seq .n (.seq (.seq .n (.dup (.seq .n (.seq .n (.seq .n .n))) .n)) (.seq .n (.seq .n (.seq .n .n)))))) 3 (fun args h => by kernel_rfl)
/-- (*roundhouse/agent.Agent).done -/
noncomputable def F253 (S : FS) (D : FD) (args : List AV) (h : Heap) : Option (Bool × AV × Heap) :=
 kv3 args fun a_1 act_2 m_3 =>
 knt act_2 (Heap.pushK h (.cells (AV.cells act_2) true 362) fun h4 =>
 knt m_3 (Heap.pushK h4 (.cells (AV.cells m_3) true 300) fun h5 =>
 ob (knil a_1) fun v6 =>
 ob (kfa 12 v6) fun v7 =>
 ob (kloadN 3 h5 v7) fun v8 =>
 ob (kfa 3 (.ptr (Heap.next h4) 0)) fun v9 =>
 ob (kload h5 v9) fun v10 =>
 ob (kfa 4 (.ptr (Heap.next h4) 0)) fun v11 =>
 ob (kload h5 v11) fun v12 =>
 ob (kfa 5 (.ptr (Heap.next h4) 0)) fun v13 =>
 ob (kload h5 v13) fun v14 =>
 kfree h5 (Heap.pushK h5 (.cells [(.int .i64 (.ofNat 0)), (.int .i64 (.ofNat 0)), (.int .i64 (.ofNat 0)), (.int .i64 (.ofNat 0)), (.int .i64 (.ofNat 0)), AV.nilslice] true 156) fun h15 =>
 ob (S 259 [v8, v10, v12, v14] h15) fun r16 => kres r16 (fun v17 h18 =>
 kro (Heap.next h5) h15 h18 (ob (aextract v17 0) fun v21 =>
 ob (aextract v17 1) fun v22 =>
 ob (kstore 6 (.ptr (Heap.next h5) 0) v21 h18) fun h23 =>
 ob (kloadN 6 h23 (.ptr (Heap.next h5) 0)) fun v24 =>
 ob (S 231 [v24] h23) fun r25 => kres r25 (fun v26 h27 =>
 ob (kfa 0 (.ptr (Heap.next h) 0)) fun v30 =>
 ob (kload h27 v30) fun v31 =>
 ob (kgv true v31 (kfa 1 (.ptr (Heap.next h) 0))) fun v32 =>
 ob (kgv true v31 (kfa 0 v32)) fun v33 =>
 ob (kgv true v31 (kload h27 v33)) fun v34 =>
 ob (kgv true v31 (kbinI .eql v34 (.int .i64 (.ofNat 1)))) fun v35 =>
 ob (kpick v31 v35 (.bool false)) fun v36 =>
 ob (kif v36
  (ob (knil a_1) fun v38 =>
  ob (kfa 15 v38) fun v39 =>
  ob (kload h27 v39) fun v40 =>
  ob (S 326 [v40, v26] h27) fun r41 => kres r41 (fun v42 h43 =>
  (some ⟨0, [], [], h43⟩)) (fun p44 h45 => (some ⟨1, [p44], [], h45⟩)))
  (ob (kfa 16 (.ptr (Heap.next h) 0)) fun v46 =>
  ob (kload h27 v46) fun v47 =>
  ob (kif v47
   (ob (kfa 5 (.ptr (Heap.next h5) 0)) fun v49 =>
   ob (kload h27 v49) fun v50 =>
   ob (S 264 [a_1, v50] h27) fun r51 => kres r51 (fun v52 h53 =>
   (some ⟨0, [], [], h53⟩)) (fun p54 h55 => (some ⟨1, [p54], [], h55⟩)))
   (ob (kfa 17 (.ptr (Heap.next h) 0)) fun v56 =>
   ob (kload h27 v56) fun v57 =>
   ob (kif v57
    (ob (kfa 5 (.ptr (Heap.next h5) 0)) fun v59 =>
    ob (kload h27 v59) fun v60 =>
    ob (S 188 [a_1, v60, (.int .i64 (.ofNat 9))] h27) fun r61 => kres r61 (fun v62 h63 =>
    ob (kfa 5 (.ptr (Heap.next h5) 0)) fun v66 =>
    ob (kload h63 v66) fun v67 =>
    ob (S 260 [a_1, v67] h63) fun r68 => kres r68 (fun v69 h70 =>
    ob (knil a_1) fun v73 =>
    ob (kfa 15 v73) fun v74 =>
    ob (kload h70 v74) fun v75 =>
    ob (S 266 [v75, v26] h70) fun r76 => kres r76 (fun v77 h78 =>
    (some ⟨0, [], [], h78⟩)) (fun p79 h80 => (some ⟨1, [p79], [], h80⟩))) (fun p71 h72 => (some ⟨1, [p71], [], h72⟩))) (fun p64 h65 => (some ⟨1, [p64], [], h65⟩)))
    (ob (kfa 18 (.ptr (Heap.next h) 0)) fun v81 =>
    ob (kload h27 v81) fun v82 =>
    ob (kif v82
     (ob (knil a_1) fun v84 =>
     ob (kfa 17 v84) fun v85 =>
     ob (kload h27 v85) fun v86 =>
     ob (alookup Tryz.prog h27 88 v86 v26 true) fun v87 =>
     ob (aextract v87 0) fun v88 =>
     ob (aextract v87 1) fun v89 =>
     ob (aun .not v89) fun v90 =>
     ob (kif v90
      (ob (knil a_1) fun v92 =>
      ob (kfa 17 v92) fun v93 =>
      ob (kload h27 v93) fun v94 =>
      ob (knil a_1) fun v95 =>
      ob (kfa 0 v95) fun v96 =>
      ob (kfa 4 v96) fun v97 =>
      ob (kload h27 v97) fun v98 =>
      ob (amapSet Tryz.prog h27 88 v94 v26 v98) fun h99 =>
      (some ⟨0, [a_1, (.ptr (Heap.next h5) 0)], [], h99⟩))
      ((some ⟨0, [a_1, (.ptr (Heap.next h5) 0)], [], h27⟩))) fun r91 => kcase (J.i r91) [kv2 (J.vs r91) fun a_100 x_101 =>
      ob (kfa 5 x_101) fun v102 =>
      ob (kload (J.h r91) v102) fun v103 =>
      ob (S 188 [a_100, v103, (.int .i64 (.ofNat 15))] (J.h r91)) fun r104 => kres r104 (fun v105 h106 =>
      (some ⟨0, [], (J.ds r91), h106⟩)) (fun p107 h108 => (some ⟨1, [p107], (J.ds r91), h108⟩))])
     ((some ⟨0, [], [], h27⟩))) fun r83 => kcase (J.i r83) [kv0 (J.vs r83) ((some ⟨0, [], (J.ds r83), (J.h r83)⟩)),
    kv1 (J.vs r83) fun p109 => (some ⟨1, [p109], (J.ds r83), (J.h r83)⟩)])) fun r58 => kcase (J.i r58) [kv0 (J.vs r58) ((some ⟨0, [], (J.ds r58), (J.h r58)⟩)),
   kv1 (J.vs r58) fun p110 => (some ⟨1, [p110], (J.ds r58), (J.h r58)⟩)])) fun r48 => kcase (J.i r48) [kv0 (J.vs r48) ((some ⟨0, [], (J.ds r48), (J.h r48)⟩)),
  kv1 (J.vs r48) fun p111 => (some ⟨1, [p111], (J.ds r48), (J.h r48)⟩)])) fun r37 => kcase (J.i r37) [kv0 (J.vs r37) ((dleave (fun h112 => (some (false, (.tuple []), h112))) (J.ds r37) (J.h r37))),
 kv1 (J.vs r37) fun p113 => (kds (J.ds r37) (some (true, p113, (J.h r37))))]) (fun p28 h29 => (some (true, p28, h29))))) (fun p19 h20 => none))))
theorem F253_ok {S : FS} {D : FD} (hS : SpecsOK Tryz.prog S) (hD : DynOK Tryz.prog D) : SpecOK Tryz.prog 253 (F253 S D) :=
  SpecOK.of (c := match Tryz.f253.body with | some c => c | none => .skip) (by kernel_rfl) hS hD ⟨Tryz.func253, rfl, by decide⟩
    (.seq .n (.seq .n (.seq .n (.one (.seq .n (.join [(.norm, []), (.pan, [])] (.dup .n (.seq .n (.join [(.norm, []), (.pan, [])] (.dup .n (.seq .n (.join [(.norm, []), (.pan, [])] (.dup (.seq .n (.seq .n .n)) (.seq .n (.join [(.norm, []), (.pan, [])] (.dup (.seq (.seq .n (.seq .n (.join [(.norm, [0, 6])] (.dup .n .n)))) .n) .n)))))))))))))))) 3 (fun args h => by kernel_rfl)
end Go.Rh.Tryz
