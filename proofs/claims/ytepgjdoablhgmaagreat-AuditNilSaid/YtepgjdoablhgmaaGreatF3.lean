/- Printed by wip/tools/gen.py: functions of the program as plain functions over abstract values, each with its proof. -/
import Derived.Test.YtepgjdoablhgmaaGreatProg
import Derived.Test.YtepgjdoablhgmaaGreatRh3
set_option maxRecDepth 1000000
set_option linter.unusedVariables false
namespace Go.Rh.Tryz
open Go.Proofs
/-- (*roundhouse/world.World).crash -/
noncomputable def F92 (S : FS) (D : FD) (args : List AV) (h : Heap) : Option (Bool × AV × Heap) :=
 kv2 args fun w_1 o_2 =>
 knt o_2 (Heap.pushK h (.cells (AV.cells o_2) true 69) fun h3 =>
 ob (kfa 1 (.ptr (Heap.next h) 0)) fun v4 =>
 ob (kload h3 v4) fun v5 =>
 ob (S 138 [w_1, v5] h3) fun r6 => kres r6 (fun v7 h8 =>
 ob (S 14 [v7] h8) fun r11 => kres r11 (fun v12 h13 =>
 ob (aun .not v12) fun v16 =>
 ob (kfa 1 (.ptr (Heap.next h) 0)) fun v17 =>
 ob (kload h13 v17) fun v18 =>
 ob (S 138 [w_1, v18] h13) fun r19 => kres r19 (fun v20 h21 =>
 ob (S 139 [v20] h21) fun r24 => kres r24 (fun v25 h26 =>
 (some (false, v16, h26))) (fun p27 h28 => (some (true, p27, h28)))) (fun p22 h23 => (some (true, p22, h23)))) (fun p14 h15 => (some (true, p14, h15)))) (fun p9 h10 => (some (true, p9, h10))))
theorem F92_ok {S : FS} {D : FD} (hS : SpecsOK Tryz.prog S) (hD : DynOK Tryz.prog D) : SpecOK Tryz.prog 92 (F92 S D) :=
  SpecOK.of (c := match Tryz.f92.body with | some c => c | none => .skip) (by kernel_rfl) hS hD ⟨Tryz.func92, rfl, by decide⟩
    (.seq .n (.seq .n (.seq .n (.seq .n .n)))) 2 (fun args h => by kernel_rfl)
/-- (*roundhouse/world.World).recover -/
noncomputable def F93 (S : FS) (D : FD) (args : List AV) (h : Heap) : Option (Bool × AV × Heap) :=
 kv2 args fun w_1 o_2 =>
 knt o_2 (Heap.pushK h (.cells (AV.cells o_2) true 69) fun h3 =>
 ob (kfa 1 (.ptr (Heap.next h) 0)) fun v4 =>
 ob (kload h3 v4) fun v5 =>
 ob (S 138 [w_1, v5] h3) fun r6 => kres r6 (fun v7 h8 =>
 ob (S 14 [v7] h8) fun r11 => kres r11 (fun v12 h13 =>
 ob (knil w_1) fun v16 =>
 ob (kfa 2 v16) fun v17 =>
 ob (kload h13 v17) fun v18 =>
 ob (kfa 1 (.ptr (Heap.next h) 0)) fun v19 =>
 ob (kload h13 v19) fun v20 =>
 ob (S 138 [w_1, v20] h13) fun r21 => kres r21 (fun v22 h23 =>
 kre (kload h23 v17) v18 (ob (S 140 [v22] h23) fun r26 => kres r26 (fun v27 h28 =>
 kre (kload h28 v17) v18 (ob (S 131 [v18, v27] h28) fun r31 => kres r31 (fun v32 h33 =>
 ob (kfa 1 (.ptr (Heap.next h) 0)) fun v36 =>
 ob (kload h33 v36) fun v37 =>
 ob (knil w_1) fun v38 =>
 ob (kfa 3 v38) fun v39 =>
 ob (kload h33 v39) fun v40 =>
 ob (S 138 [w_1, v37] h33) fun r41 => kres r41 (fun v42 h43 =>
 kre (kload h43 v39) v40 (ob (S 130 [v42, v40] h43) fun r46 => kres r46 (fun v47 h48 =>
 (some (false, v12, h48))) (fun p49 h50 => (some (true, p49, h50))))) (fun p44 h45 => none)) (fun p34 h35 => (some (true, p34, h35))))) (fun p29 h30 => none))) (fun p24 h25 => none)) (fun p14 h15 => (some (true, p14, h15)))) (fun p9 h10 => (some (true, p9, h10))))
theorem F93_ok {S : FS} {D : FD} (hS : SpecsOK Tryz.prog S) (hD : DynOK Tryz.prog D) : SpecOK Tryz.prog 93 (F93 S D) :=
  SpecOK.of (c := match Tryz.f93.body with | some c => c | none => .skip) (by kernel_rfl) hS hD ⟨Tryz.func93, rfl, by decide⟩
    (.seq .n (.seq .n (.seq .n (.seq .n (.seq .n .n))))) 2 (fun args h => by kernel_rfl)
/-- (*roundhouse/world.World).cancel -/
noncomputable def F94 (S : FS) (D : FD) (args : List AV) (h : Heap) : Option (Bool × AV × Heap) :=
 kv2 args fun w_1 o_2 =>
 knt o_2 (Heap.pushK h (.cells (AV.cells o_2) true 69) fun h3 =>
 ob (knil w_1) fun v4 =>
 ob (kfa 1 v4) fun v5 =>
 ob (kload h3 v5) fun v6 =>
 ob (kfa 1 (.ptr (Heap.next h) 0)) fun v7 =>
 ob (kload h3 v7) fun v8 =>
 ob (S 141 [v6, v8] h3) fun r9 => kres r9 (fun v10 h11 =>
 ob (kbinI .eql v10 (.int .i64 (.ofNat 0))) fun v14 =>
 (some (false, v14, h11))) (fun p12 h13 => (some (true, p12, h13))))
theorem F94_ok {S : FS} {D : FD} (hS : SpecsOK Tryz.prog S) (hD : DynOK Tryz.prog D) : SpecOK Tryz.prog 94 (F94 S D) :=
  SpecOK.of (c := match Tryz.f94.body with | some c => c | none => .skip) (by kernel_rfl) hS hD ⟨Tryz.func94, rfl, by decide⟩
    (.seq .n (.seq .n .n)) 2 (fun args h => by kernel_rfl)
/-- roundhouse/world.goes -/
noncomputable def F95 (S : FS) (D : FD) (args : List AV) (h : Heap) : Option (Bool × AV × Heap) :=
 kv1 args fun vote_1 =>
 ob (kbinI .eql vote_1 (.int .i64 (.ofNat 1))) fun v2 =>
 ob (kgv false v2 (some vote_1)) fun v3 =>
 ob (kgv false v2 (kbinI .eql v3 (.int .i64 (.ofNat 3)))) fun v4 =>
 ob (kpick v2 (.bool true) v4) fun v5 =>
 (some (false, v5, h))
theorem F95_ok {S : FS} {D : FD} (hS : SpecsOK Tryz.prog S) (hD : DynOK Tryz.prog D) : SpecOK Tryz.prog 95 (F95 S D) :=
  SpecOK.of (c := match Tryz.f95.body with | some c => c | none => .skip) (by kernel_rfl) hS hD ⟨Tryz.func95, rfl, by decide⟩
    (.seq .n (.seq .n .n)) 1 (fun args h => by kernel_rfl)
/-- slices.Collect[int] -/
noncomputable def F96 (S : FS) (D : FD) (args : List AV) (h : Heap) : Option (Bool × AV × Heap) :=
 kv1 args fun seq_1 =>
 ob (S 142 [AV.nilslice, seq_1] h) fun r2 => kres r2 (fun v3 h4 =>
 (some (false, v3, h4))) (fun p5 h6 => (some (true, p5, h6)))
theorem F96_ok {S : FS} {D : FD} (hS : SpecsOK Tryz.prog S) (hD : DynOK Tryz.prog D) : SpecOK Tryz.prog 96 (F96 S D) :=
  SpecOK.of (c := match Tryz.f96.body with | some c => c | none => .skip) (by kernel_rfl) hS hD ⟨Tryz.func96, rfl, by decide⟩
    (.seq .n (.seq .n .n)) 1 (fun args h => by kernel_rfl)
/-- maps.Keys[map[int]*roundhouse/procs.process,int,*roundhouse/procs.process]$1 -/
noncomputable def F97 (S : FS) (D : FD) (args : List AV) (h : Heap) : Option (Bool × AV × Heap) :=
 kv2 args fun yield_1 v2 =>
 ob (kload h v2) fun v3 =>
 ob (arangeM Tryz.prog h 134 v3) fun r4 =>
 ob (iterD (fun vs5 ds6 h7 => kv2 vs5 fun yield_8 v9 =>
  ob (anext h7 v9 false) fun r10 =>
  ob (aextract r10.1 0) fun v11 =>
  kif v11
   (ob (aentry r10.2 v9) fun v12 =>
   ob (aextract v12 0) fun v13 =>
   ob (D yield_8 [v13] r10.2) fun r14 => kres r14 (fun v15 h16 =>
   ob (aun .not v15) fun v19 =>
   kif v19
    ((some ⟨2, [], ds6, h16⟩))
    ((some ⟨0, [yield_8, v9], ds6, h16⟩))) (fun p17 h18 => (some ⟨3, [p17], ds6, h18⟩)))
   ((some ⟨1, [], ds6, r10.2⟩))) rounds [yield_1, r4.1] [] r4.2) fun r20 => kcase (J.i r20) [kv0 (J.vs r20) ((dleave (fun h21 => (some (false, (.tuple []), h21))) (J.ds r20) (J.h r20))),
 kv0 (J.vs r20) ((dleave (fun h22 => (some (false, (.tuple []), h22))) (J.ds r20) (J.h r20))),
 kv1 (J.vs r20) fun p23 => (kds (J.ds r20) (some (true, p23, (J.h r20))))]
theorem F97_ok {S : FS} {D : FD} (hS : SpecsOK Tryz.prog S) (hD : DynOK Tryz.prog D) : SpecOK Tryz.prog 97 (F97 S D) :=
  SpecOK.of (c := match Tryz.f97.body with | some c => c | none => .skip) (by kernel_rfl) hS hD ⟨Tryz.func97, rfl, by decide⟩
    (.seq .n (.one (.loop [0, 5] [(.exit 0, []), (.ret, []), (.pan, [])] (.seq .n (.seq (.dup .n .n) (.one (.seq .n (.seq .n (.dup .n .n))))))))) 2 (fun args h => by kernel_rfl)
/-- slices.siftDownCmpFunc[roundhouse/audit.Owner] -/
noncomputable def F98 (S : FS) (D : FD) (args : List AV) (h : Heap) : Option (Bool × AV × Heap) :=
 kv5 args fun data_1 lo_2 hi_3 first_4 cmp_5 =>
 ob (iterD (fun vs6 ds7 h8 => kv5 vs6 fun data_9 hi_10 first_11 cmp_12 root_13 =>
  ob (kbinI .mul (.int .i64 (.ofNat 2)) root_13) fun v14 =>
  ob (kbinI .add v14 (.int .i64 (.ofNat 1))) fun v15 =>
  ob (kbinI .geq v15 hi_10) fun v16 =>
  kif v16
   ((some ⟨1, [], ds7, h8⟩))
   (ob (kbinI .add v15 (.int .i64 (.ofNat 1))) fun v17 =>
   ob (kbinI .lss v17 hi_10) fun v18 =>
   ob (kgv true v18 (some cmp_12)) fun v19 =>
   ob (kgv true v18 (some data_9)) fun v20 =>
   ob (kgv true v18 (some first_11)) fun v21 =>
   ob (kgv true v18 (some v15)) fun v22 =>
   ob (kgv true v18 (kbinI .add v21 v22)) fun v23 =>
   ob (kgv true v18 (kia 6 v20 v23)) fun v24 =>
   ob (kgv true v18 (kloadN 6 h8 v24)) fun v25 =>
   ob (kgv true v18 (some data_9)) fun v26 =>
   ob (kgv true v18 (some first_11)) fun v27 =>
   ob (kgv true v18 (some v15)) fun v28 =>
   ob (kgv true v18 (kbinI .add v27 v28)) fun v29 =>
   ob (kgv true v18 (kbinI .add v29 (.int .i64 (.ofNat 1)))) fun v30 =>
   ob (kgv true v18 (kia 6 v26 v30)) fun v31 =>
   ob (kgv true v18 (kloadN 6 h8 v31)) fun v32 =>
   ob (kgc true v18 h8 (D v19 [v25, v32] h8)) fun r33 => kres r33 (fun v34 h35 =>
   ob (kgv true v18 (kbinI .lss v34 (.int .i64 (.ofNat 0)))) fun v38 =>
   ob (kpick v18 v38 (.bool false)) fun v39 =>
   ob (kif v39
    (ob (kbinI .add v15 (.int .i64 (.ofNat 1))) fun v41 =>
    (some ⟨0, [data_9, hi_10, first_11, cmp_12, root_13, v41], ds7, h35⟩))
    ((some ⟨0, [data_9, hi_10, first_11, cmp_12, root_13, v15], ds7, h35⟩))) fun r40 => kcase (J.i r40) [kv6 (J.vs r40) fun data_42 hi_43 first_44 cmp_45 root_46 child_47 =>
    ob (kbinI .add first_44 root_46) fun v48 =>
    ob (kia 6 data_42 v48) fun v49 =>
    ob (kloadN 6 (J.h r40) v49) fun v50 =>
    ob (kbinI .add first_44 child_47) fun v51 =>
    ob (kia 6 data_42 v51) fun v52 =>
    ob (kloadN 6 (J.h r40) v52) fun v53 =>
    ob (D cmp_45 [v50, v53] (J.h r40)) fun r54 => kres r54 (fun v55 h56 =>
    ob (kbinI .lss v55 (.int .i64 (.ofNat 0))) fun v59 =>
    ob (aun .not v59) fun v60 =>
    kif v60
     ((some ⟨2, [], (J.ds r40), h56⟩))
     (ob (kbinI .add first_44 root_46) fun v61 =>
     ob (kbinI .add first_44 child_47) fun v62 =>
     ob (kbinI .add first_44 child_47) fun v63 =>
     ob (kia 6 data_42 v63) fun v64 =>
     ob (kloadN 6 h56 v64) fun v65 =>
     ob (kbinI .add first_44 root_46) fun v66 =>
     ob (kia 6 data_42 v66) fun v67 =>
     ob (kloadN 6 h56 v67) fun v68 =>
     ob (kia 6 data_42 v61) fun v69 =>
     ob (kstore 6 v69 v65 h56) fun h70 =>
     ob (kia 6 data_42 v62) fun v71 =>
     ob (kstore 6 v71 v68 h70) fun h72 =>
     (some ⟨0, [data_42, hi_43, first_44, cmp_45, child_47], (J.ds r40), h72⟩))) (fun p57 h58 => (some ⟨3, [p57], (J.ds r40), h58⟩))]) (fun p36 h37 => (some ⟨3, [p36], ds7, h37⟩)))) rounds [data_1, hi_3, first_4, cmp_5, lo_2] [] h) fun r73 => kcase (J.i r73) [kv0 (J.vs r73) ((dleave (fun h74 => (some (false, (.tuple []), h74))) (J.ds r73) (J.h r73))),
 kv0 (J.vs r73) ((dleave (fun h75 => (some (false, (.tuple []), h75))) (J.ds r73) (J.h r73))),
 kv1 (J.vs r73) fun p76 => (kds (J.ds r73) (some (true, p76, (J.h r73))))]
theorem F98_ok {S : FS} {D : FD} (hS : SpecsOK Tryz.prog S) (hD : DynOK Tryz.prog D) : SpecOK Tryz.prog 98 (F98 S D) :=
  SpecOK.of (c := match Tryz.f98.body with | some c => c | none => .skip) (by kernel_rfl) hS hD ⟨Tryz.func98, rfl, by decide⟩
    (.seq .n (.one (.loop [0, 2, 3, 4, 10] [(.exit 0, []), (.ret, []), (.pan, [])] (.one (.seq .n (.seq (.seq .n (.dup .n .n)) (.seq (.seq .n (.join [(.norm, [0, 2, 3, 4, 10, 11])] (.dup .n .n))) (.seq (.seq .n (.dup .n .n)) (.seq .n .n))))))))) 5 (fun args h => by kernel_rfl)
/-- slices.nextPowerOfTwo -/
noncomputable def F99 (S : FS) (D : FD) (args : List AV) (h : Heap) : Option (Bool × AV × Heap) :=
 kv1 args fun length_1 =>
 ob (kconvI .u64 length_1) fun v2 =>
 ob (S 25 [v2] h) fun r3 => kres r3 (fun v4 h5 =>
 ob (kbinI .shl (.int .u64 (.ofNat 1)) v4) fun v8 =>
 (some (false, v8, h5))) (fun p6 h7 => (some (true, p6, h7)))
theorem F99_ok {S : FS} {D : FD} (hS : SpecsOK Tryz.prog S) (hD : DynOK Tryz.prog D) : SpecOK Tryz.prog 99 (F99 S D) :=
  SpecOK.of (c := match Tryz.f99.body with | some c => c | none => .skip) (by kernel_rfl) hS hD ⟨Tryz.func99, rfl, by decide⟩
    (.seq .n (.seq .n .n)) 1 (fun args h => by kernel_rfl)
/-- (*slices.xorshift).Next -/
noncomputable def F100 (S : FS) (D : FD) (args : List AV) (h : Heap) : Option (Bool × AV × Heap) :=
 kv1 args fun r_1 =>
 ob (knil r_1) fun v2 =>
 ob (kload h v2) fun v3 =>
 ob (knil r_1) fun v4 =>
 ob (kload h v4) fun v5 =>
 ob (kbinI .shl v5 (.int .u64 (.ofNat 13))) fun v6 =>
 ob (kbinI .xor v3 v6) fun v7 =>
 ob (knil r_1) fun v8 =>
 ob (kstore 1 v8 v7 h) fun h9 =>
 ob (knil r_1) fun v10 =>
 ob (kload h9 v10) fun v11 =>
 ob (knil r_1) fun v12 =>
 ob (kload h9 v12) fun v13 =>
 ob (kbinI .shr v13 (.int .u64 (.ofNat 7))) fun v14 =>
 ob (kbinI .xor v11 v14) fun v15 =>
 ob (knil r_1) fun v16 =>
 ob (kstore 1 v16 v15 h9) fun h17 =>
 ob (knil r_1) fun v18 =>
 ob (kload h17 v18) fun v19 =>
 ob (knil r_1) fun v20 =>
 ob (kload h17 v20) fun v21 =>
 ob (kbinI .shl v21 (.int .u64 (.ofNat 17))) fun v22 =>
 ob (kbinI .xor v19 v22) fun v23 =>
 ob (knil r_1) fun v24 =>
 ob (kstore 1 v24 v23 h17) fun h25 =>
 ob (knil r_1) fun v26 =>
 ob (kload h25 v26) fun v27 =>
 (some (false, v27, h25))
theorem F100_ok {S : FS} {D : FD} (hS : SpecsOK Tryz.prog S) (hD : DynOK Tryz.prog D) : SpecOK Tryz.prog 100 (F100 S D) :=
  SpecOK.of (c := match Tryz.f100.body with | some c => c | none => .skip) (by kernel_rfl) hS hD ⟨Tryz.func100, rfl, by decide⟩
    (.seq .n (.seq .n (.seq .n (.seq .n (.seq .n .n))))) 1 (fun args h => by kernel_rfl)
/-- slices.medianAdjacentCmpFunc[roundhouse/audit.Owner] -/
noncomputable def F101 (S : FS) (D : FD) (args : List AV) (h : Heap) : Option (Bool × AV × Heap) :=
 kv4 args fun data_1 a_2 swaps_3 cmp_4 =>
 ob (kbinI .sub a_2 (.int .i64 (.ofNat 1))) fun v5 =>
 ob (kbinI .add a_2 (.int .i64 (.ofNat 1))) fun v6 =>
 ob (S 102 [data_1, v5, a_2, v6, swaps_3, cmp_4] h) fun r7 => kres r7 (fun v8 h9 =>
 (some (false, v8, h9))) (fun p10 h11 => (some (true, p10, h11)))
theorem F101_ok {S : FS} {D : FD} (hS : SpecsOK Tryz.prog S) (hD : DynOK Tryz.prog D) : SpecOK Tryz.prog 101 (F101 S D) :=
  SpecOK.of (c := match Tryz.f101.body with | some c => c | none => .skip) (by kernel_rfl) hS hD ⟨Tryz.func101, rfl, by decide⟩
    (.seq .n (.seq .n .n)) 4 (fun args h => by kernel_rfl)
/-- slices.medianCmpFunc[roundhouse/audit.Owner] -/
noncomputable def F102 (S : FS) (D : FD) (args : List AV) (h : Heap) : Option (Bool × AV × Heap) :=
 kv6 args fun data_1 a_2 b_3 c_4 swaps_5 cmp_6 =>
 ob (S 143 [data_1, a_2, b_3, swaps_5, cmp_6] h) fun r7 => kres r7 (fun v8 h9 =>
 ob (aextract v8 0) fun v12 =>
 ob (aextract v8 1) fun v13 =>
 ob (S 143 [data_1, v13, c_4, swaps_5, cmp_6] h9) fun r14 => kres r14 (fun v15 h16 =>
 ob (aextract v15 0) fun v19 =>
 ob (aextract v15 1) fun v20 =>
 ob (S 143 [data_1, v12, v19, swaps_5, cmp_6] h16) fun r21 => kres r21 (fun v22 h23 =>
 ob (aextract v22 0) fun v26 =>
 ob (aextract v22 1) fun v27 =>
 (some (false, v27, h23))) (fun p24 h25 => (some (true, p24, h25)))) (fun p17 h18 => (some (true, p17, h18)))) (fun p10 h11 => (some (true, p10, h11)))
theorem F102_ok {S : FS} {D : FD} (hS : SpecsOK Tryz.prog S) (hD : DynOK Tryz.prog D) : SpecOK Tryz.prog 102 (F102 S D) :=
  SpecOK.of (c := match Tryz.f102.body with | some c => c | none => .skip) (by kernel_rfl) hS hD ⟨Tryz.func102, rfl, by decide⟩
    (.seq .n (.seq .n (.seq .n (.seq .n (.seq .n .n))))) 6 (fun args h => by kernel_rfl)
/-- roundhouse/cores.All -/
noncomputable def F103 (S : FS) (D : FD) (args : List AV) (h : Heap) : Option (Bool × AV × Heap) :=
 kv1 args fun l_1 =>
 knt l_1 (Heap.pushK h (.cells (AV.cells l_1) true 57) fun h2 =>
 Heap.pushK h2 (.cells [(.int .u64 (.ofNat 0)), (.int .u64 (.ofNat 0)), (.int .u64 (.ofNat 0)), (.int .u64 (.ofNat 0))] true 98) fun h3 =>
 ob (kloadN 2 h3 (.ptr (Heap.next h) 0)) fun v4 =>
 ob (S 145 [v4] h3) fun r5 => kres r5 (fun v6 h7 =>
 ob (S 144 [v6] h7) fun r10 => kres r10 (fun v11 h12 =>
 ob (aextract v11 0) fun v15 =>
 ob (aextract v11 1) fun v16 =>
 Heap.pushK h12 (.cells [(.int .u64 (.ofNat 0)), (.int .u64 (.ofNat 0)), (.int .u64 (.ofNat 0)), (.int .u64 (.ofNat 0))] true 98) fun h17 =>
 ob (kstore 4 (.ptr (Heap.next h12) 0) v15 h17) fun h18 =>
 ob (kloadN 4 h18 (.ptr (Heap.next h12) 0)) fun v19 =>
 ob (kstore 4 (.ptr (Heap.next h2) 0) v19 h18) fun h20 =>
 ob (kloadN 4 h20 (.ptr (Heap.next h2) 0)) fun v21 => (some (false, v21, h20))) (fun p13 h14 => (some (true, p13, h14)))) (fun p8 h9 => (some (true, p8, h9))))
theorem F103_ok {S : FS} {D : FD} (hS : SpecsOK Tryz.prog S) (hD : DynOK Tryz.prog D) : SpecOK Tryz.prog 103 (F103 S D) :=
  SpecOK.of (c := match Tryz.f103.body with | some c => c | none => .skip) (by kernel_rfl) hS hD ⟨Tryz.func103, rfl, by decide⟩
    (.seq .n (.seq .n (.seq .n .n))) 1 (fun args h => by kernel_rfl)
/-- (roundhouse/mask.Mask).Minus -/
noncomputable def F104 (S : FS) (D : FD) (args : List AV) (h : Heap) : Option (Bool × AV × Heap) :=
 kv2 args fun m_1 o_2 =>
 knt m_1 (Heap.pushK h (.cells (AV.cells m_1) true 98) fun h3 =>
 knt o_2 (Heap.pushK h3 (.cells (AV.cells o_2) true 98) fun h4 =>
 Heap.pushK h4 (.cells [(.int .u64 (.ofNat 0)), (.int .u64 (.ofNat 0)), (.int .u64 (.ofNat 0)), (.int .u64 (.ofNat 0))] true 98) fun h5 =>
 ob (kloadN 4 h5 (.ptr (Heap.next h) 0)) fun v6 =>
 ob (kloadN 4 h5 (.ptr (Heap.next h3) 0)) fun v7 =>
 ob (S 146 [v6, v7, (.func 147 [])] h5) fun r8 => kres r8 (fun v9 h10 =>
 ob (kstore 4 (.ptr (Heap.next h4) 0) v9 h10) fun h13 =>
 ob (kloadN 4 h13 (.ptr (Heap.next h4) 0)) fun v14 => (some (false, v14, h13))) (fun p11 h12 => (some (true, p11, h12)))))
theorem F104_ok {S : FS} {D : FD} (hS : SpecsOK Tryz.prog S) (hD : DynOK Tryz.prog D) : SpecOK Tryz.prog 104 (F104 S D) :=
  SpecOK.of (c := match Tryz.f104.body with | some c => c | none => .skip) (by kernel_rfl) hS hD ⟨Tryz.func104, rfl, by decide⟩
    (.seq .n (.seq .n .n)) 2 (fun args h => by kernel_rfl)
/-- roundhouse/journal.records -/
noncomputable def F105 (S : FS) (D : FD) (args : List AV) (h : Heap) : Option (Bool × AV × Heap) :=
 kv1 args fun log_1 =>
 knt log_1 (Heap.pushK h (.cells (AV.cells log_1) true 9) fun h2 =>
 (some (false, (.func 148 [(.ptr (Heap.next h) 0)]), h2)))
theorem F105_ok {S : FS} {D : FD} (hS : SpecsOK Tryz.prog S) (hD : DynOK Tryz.prog D) : SpecOK Tryz.prog 105 (F105 S D) :=
  SpecOK.of (c := match Tryz.f105.body with | some c => c | none => .skip) (by kernel_rfl) hS hD ⟨Tryz.func105, rfl, by decide⟩
    (.seq .n (.seq .n .n)) 1 (fun args h => by kernel_rfl)
/-- roundhouse/wire.Read -/
noncomputable def F106 (S : FS) (D : FD) (args : List AV) (h : Heap) : Option (Bool × AV × Heap) :=
 kv1 args fun s_1 =>
 ob (abuild Tryz.prog 253 [(0, s_1)]) fun v2 =>
 knt v2 (Heap.pushK h (.cells (AV.cells v2) true 253) fun h3 =>
 (some (false, (.ptr (Heap.next h) 0), h3)))
theorem F106_ok {S : FS} {D : FD} (hS : SpecsOK Tryz.prog S) (hD : DynOK Tryz.prog D) : SpecOK Tryz.prog 106 (F106 S D) :=
  SpecOK.of (c := match Tryz.f106.body with | some c => c | none => .skip) (by kernel_rfl) hS hD ⟨Tryz.func106, rfl, by decide⟩
    (.seq .n (.seq .n .n)) 1 (fun args h => by kernel_rfl)
/-- (*roundhouse/wire.Reader).Num -/
noncomputable def F107 (S : FS) (D : FD) (args : List AV) (h : Heap) : Option (Bool × AV × Heap) :=
 kv1 args fun r_1 =>
 knt r_1 (Heap.pushK h (.cells (AV.cells r_1) true 210) fun h2 =>
 Heap.pushK h2 (.cells [(.int .i64 (.ofNat 0))] true 3) fun h3 =>
 ob (kstore 1 (.ptr (Heap.next h2) 0) (.int .i64 (.ofNat 0)) h3) fun h4 =>
 ob (kload h4 (.ptr (Heap.next h) 0)) fun v5 =>
 ob (S 150 [v5, (.func 151 [(.ptr (Heap.next h) 0), (.ptr (Heap.next h2) 0)])] h4) fun r6 => kres r6 (fun v7 h8 =>
 ob (kload h8 (.ptr (Heap.next h2) 0)) fun v11 =>
 (some (false, v11, h8))) (fun p9 h10 => (some (true, p9, h10))))
theorem F107_ok {S : FS} {D : FD} (hS : SpecsOK Tryz.prog S) (hD : DynOK Tryz.prog D) : SpecOK Tryz.prog 107 (F107 S D) :=
  SpecOK.of (c := match Tryz.f107.body with | some c => c | none => .skip) (by kernel_rfl) hS hD ⟨Tryz.func107, rfl, by decide⟩
    (.seq .n (.seq .n (.seq .n (.seq .n .n)))) 1 (fun args h => by kernel_rfl)
/-- (*roundhouse/wire.Reader).List -/
noncomputable def F108 (S : FS) (D : FD) (args : List AV) (h : Heap) : Option (Bool × AV × Heap) :=
 kv2 args fun r_1 most_2 =>
 knt r_1 (Heap.pushK h (.cells (AV.cells r_1) true 210) fun h3 =>
 knt most_2 (Heap.pushK h3 (.cells (AV.cells most_2) true 3) fun h4 =>
 Heap.pushK h4 (.cells [AV.nilslice] true 37) fun h5 =>
 Heap.pushK h5 (.cells [(.bool false)] true 4) fun h6 =>
 ob (kstore 1 (.ptr (Heap.next h5) 0) (.bool false) h6) fun h7 =>
 ob (kload h7 (.ptr (Heap.next h) 0)) fun v8 =>
 ob (S 150 [v8, (.func 153 [(.ptr (Heap.next h) 0), (.ptr (Heap.next h3) 0), (.ptr (Heap.next h4) 0), (.ptr (Heap.next h5) 0)])] h7) fun r9 => kres r9 (fun v10 h11 =>
 ob (kload h11 (.ptr (Heap.next h5) 0)) fun v14 =>
 ob (aun .not v14) fun v15 =>
 kif v15
  ((some (false, AV.nilslice, h11)))
  (ob (kload h11 (.ptr (Heap.next h4) 0)) fun v16 =>
  (some (false, v16, h11)))) (fun p12 h13 => (some (true, p12, h13)))))
theorem F108_ok {S : FS} {D : FD} (hS : SpecsOK Tryz.prog S) (hD : DynOK Tryz.prog D) : SpecOK Tryz.prog 108 (F108 S D) :=
  SpecOK.of (c := match Tryz.f108.body with | some c => c | none => .skip) (by kernel_rfl) hS hD ⟨Tryz.func108, rfl, by decide⟩
    (.seq .n (.seq .n (.seq .n (.seq .n (.seq (.seq .n (.dup (.seq .n .n) .n)) (.seq .n .n)))))) 2 (fun args h => by kernel_rfl)
/-- (*roundhouse/wire.Reader).End -/
noncomputable def F109 (S : FS) (D : FD) (args : List AV) (h : Heap) : Option (Bool × AV × Heap) :=
 kv1 args fun r_1 =>
 ob (kbinO Tryz.prog .eql 210 true r_1 AV.nilptr) fun v2 =>
 kif v2
  ((some (false, (.tuple [(.int .i64 (.ofNat 1)), (.int .i64 (.ofNat 0))]), h)))
  (ob (knil r_1) fun v3 =>
  ob (kfa 2 v3) fun v4 =>
  ob (kload h v4) fun v5 =>
  ob (kbinI .eql v5 (.int .i64 (.ofNat 0))) fun v6 =>
  ob (kgv true v6 (some r_1)) fun v7 =>
  ob (kgv true v6 (knil v7)) fun v8 =>
  ob (kgv true v6 (kfa 1 v8)) fun v9 =>
  ob (kgv true v6 (kload h v9)) fun v10 =>
  ob (kgv true v6 (some r_1)) fun v11 =>
  ob (kgv true v6 (knil v11)) fun v12 =>
  ob (kgv true v6 (kfa 0 v12)) fun v13 =>
  ob (kgv true v6 (kload h v13)) fun v14 =>
  ob (kgv true v6 (klenS v14)) fun v15 =>
  ob (kgv true v6 (kbinI .lss v10 v15)) fun v16 =>
  ob (kpick v6 v16 (.bool false)) fun v17 =>
  kif v17
   (ob (knil r_1) fun v18 =>
   ob (kfa 1 v18) fun v19 =>
   ob (kload h v19) fun v20 =>
   (some (false, (.tuple [(.int .i64 (.ofNat 4)), v20]), h)))
   (ob (knil r_1) fun v21 =>
   ob (kfa 2 v21) fun v22 =>
   ob (kload h v22) fun v23 =>
   ob (knil r_1) fun v24 =>
   ob (kfa 1 v24) fun v25 =>
   ob (kload h v25) fun v26 =>
   (some (false, (.tuple [v23, v26]), h))))
theorem F109_ok {S : FS} {D : FD} (hS : SpecsOK Tryz.prog S) (hD : DynOK Tryz.prog D) : SpecOK Tryz.prog 109 (F109 S D) :=
  SpecOK.of (c := match Tryz.f109.body with | some c => c | none => .skip) (by kernel_rfl) hS hD ⟨Tryz.func109, rfl, by decide⟩
    (.seq .n (.seq (.one (.seq .n (.dup (.seq .n .n) (.seq .n (.dup (.seq .n .n) .n))))) (.seq .n .n))) 1 (fun args h => by kernel_rfl)
/-- roundhouse/rec.may -/
noncomputable def F110 (S : FS) (D : FD) (args : List AV) (h : Heap) : Option (Bool × AV × Heap) :=
 kv1 args fun r_1 =>
 knt r_1 (Heap.pushK h (.cells (AV.cells r_1) true 167) fun h2 =>
 ob (kfa 1 (.ptr (Heap.next h) 0)) fun v3 =>
 ob (kload h2 v3) fun v4 =>
 ob (kfa 2 (.ptr (Heap.next h) 0)) fun v5 =>
 ob (kload h2 v5) fun v6 =>
 ob (kfa 3 (.ptr (Heap.next h) 0)) fun v7 =>
 ob (kload h2 v7) fun v8 =>
 ob (abuild Tryz.prog 256 [(0, v4), (1, v6), (2, v8)]) fun v9 =>
 ob (iterD (fun vs10 ds11 h12 => kv3 vs10 fun r_13 v14 v15 =>
  ob (kbinI .lss v15 (.int .i64 (.ofNat 3))) fun v16 =>
  kif v16
   (ob (kixA 3 false 1 v14 v15) fun v17 =>
   ob (S 155 [v17, (.int .i64 (.ofNat 0)), (.int .i64 (.ofNat 1099511627776))] h12) fun r18 => kres r18 (fun v19 h20 =>
   ob (aun .not v19) fun v23 =>
   kif v23
    ((some ⟨2, [(.bool false)], ds11, h20⟩))
    (ob (kbinI .add v15 (.int .i64 (.ofNat 1))) fun v24 =>
    (some ⟨0, [r_13, v14, v24], ds11, h20⟩))) (fun p21 h22 => (some ⟨3, [p21], ds11, h22⟩)))
   ((some ⟨1, [r_13], ds11, h12⟩))) rounds [(.ptr (Heap.next h) 0), v9, (.int .i64 (.ofNat 0))] [] h2) fun r25 => kcase (J.i r25) [kv1 (J.vs r25) fun r_26 =>
  ob (kfa 0 r_26) fun v27 =>
  ob (kload (J.h r25) v27) fun v28 =>
  ob (S 155 [v28, (.int .i64 (.ofNat 0)), (.int .i64 (.ofNat 7))] (J.h r25)) fun r29 => kres r29 (fun v30 h31 =>
  ob (aun .not v30) fun v34 =>
  ob (kgv false v34 (kfa 4 r_26)) fun v35 =>
  ob (kgv false v34 (kload h31 v35)) fun v36 =>
  ob (kgc false v34 h31 (S 155 [v36, (.int .i64 (.ofNat 0)), (.int .i64 (.ofNat 255))] h31)) fun r37 => kres r37 (fun v38 h39 =>
  ob (kgv false v34 (aun .not v38)) fun v42 =>
  ob (kpick v34 (.bool true) v42) fun v43 =>
  kif v43
   ((dleave (fun h44 => (some (false, (.bool false), h44))) (J.ds r25) h39))
   (ob (kfa 0 r_26) fun v45 =>
   ob (kload h39 v45) fun v46 =>
   ob (kbinI .eql v46 (.int .i64 (.ofNat 1))) fun v47 =>
   kif v47
    (ob (kfa 5 r_26) fun v48 =>
    ob (kload h39 v48) fun v49 =>
    ob (S 156 [v49] h39) fun r50 => kres r50 (fun v51 h52 =>
    (dleave (fun h55 => (some (false, v51, h55))) (J.ds r25) h52)) (fun p53 h54 => (kds (J.ds r25) (some (true, p53, h54)))))
    (ob (kfa 5 r_26) fun v56 =>
    ob (kload h39 v56) fun v57 =>
    ob (klenL v57) fun v58 =>
    ob (kbinI .eql v58 (.int .i64 (.ofNat 0))) fun v59 =>
    (dleave (fun h60 => (some (false, v59, h60))) (J.ds r25) h39)))) (fun p40 h41 => (kds (J.ds r25) (some (true, p40, h41))))) (fun p32 h33 => (kds (J.ds r25) (some (true, p32, h33)))),
 kv1 (J.vs r25) fun v61 =>
  (dleave (fun h62 => (some (false, v61, h62))) (J.ds r25) (J.h r25)),
 kv1 (J.vs r25) fun p63 => (kds (J.ds r25) (some (true, p63, (J.h r25))))])
theorem F110_ok {S : FS} {D : FD} (hS : SpecsOK Tryz.prog S) (hD : DynOK Tryz.prog D) : SpecOK Tryz.prog 110 (F110 S D) :=
  SpecOK.of (c := match Tryz.f110.body with | some c => c | none => .skip) (by kernel_rfl) hS hD ⟨Tryz.func110, rfl, by decide⟩
    (.seq .n (.seq (.seq .n (.one (.loop [1, 11, 12] [(.exit 0, [1]), (.ret, [2]), (.pan, [])] (.seq .n (.seq (.dup .n .n) (.seq (.one (.seq .n (.seq .n (.dup (.seq .n .n) .n)))) .n)))))) (.seq (.seq .n (.dup (.seq .n .n) .n)) (.seq (.seq .n (.dup (.seq .n .n) .n)) (.seq .n .n))))) 1 (fun args h => by kernel_rfl)
/-- roundhouse/rec.Apply -/
noncomputable def F111 (S : FS) (D : FD) (args : List AV) (h : Heap) : Option (Bool × AV × Heap) :=
 kv2 args fun s_1 r_2 =>
 knt s_1 (Heap.pushK h (.cells (AV.cells s_1) true 85) fun h3 =>
 knt r_2 (Heap.pushK h3 (.cells (AV.cells r_2) true 167) fun h4 =>
 Heap.pushK h4 (.cells [AV.nilslice, AV.nilslice, (.bool false)] true 85) fun h5 =>
 ob (kloadN 6 h5 (.ptr (Heap.next h3) 0)) fun v6 =>
 ob (S 110 [v6] h5) fun r7 => kres r7 (fun v8 h9 =>
 ob (aun .not v8) fun v12 =>
 kif v12
  (ob (kloadN 3 h9 (.ptr (Heap.next h) 0)) fun v13 =>
  ob (kstore 3 (.ptr (Heap.next h4) 0) v13 h9) fun h14 =>
  ob (kloadN 3 h14 (.ptr (Heap.next h4) 0)) fun v15 => (some (false, (.tuple [v15, (.int .i64 (.ofNat 1))]), h14)))
  (ob (kloadN 3 h9 (.ptr (Heap.next h) 0)) fun v16 =>
  ob (S 157 [v16] h9) fun r17 => kres r17 (fun v18 h19 =>
  Heap.pushK h19 (.cells [AV.nilslice, AV.nilslice, (.bool false)] true 85) fun h22 =>
  ob (kstore 3 (.ptr (Heap.next h19) 0) v18 h22) fun h23 =>
  ob (kfa 0 (.ptr (Heap.next h3) 0)) fun v24 =>
  ob (kload h23 v24) fun v25 =>
  ob (kloadN 6 h23 (.ptr (Heap.next h3) 0)) fun v26 =>
  ob (S 158 [] h23) fun r27 => kres r27 (fun v28 h29 =>
  kre (kloadN 6 h29 (.ptr (Heap.next h3) 0)) v26 (kre (kload h29 v24) v25 (ob (alookup Tryz.prog h29 262 v28 v25 false) fun v32 =>
  ob (kfield false 0 1 v32) fun v33 =>
  ob (D v33 [(.ptr (Heap.next h19) 0), v26] h29) fun r34 => kres r34 (fun v35 h36 =>
  ob (kbinI .neq v35 (.int .i64 (.ofNat 0))) fun v39 =>
  kif v39
   (ob (kloadN 3 h36 (.ptr (Heap.next h) 0)) fun v40 =>
   ob (kstore 3 (.ptr (Heap.next h4) 0) v40 h36) fun h41 =>
   ob (kloadN 3 h41 (.ptr (Heap.next h4) 0)) fun v42 => (some (false, (.tuple [v42, v35]), h41)))
   (ob (kloadN 3 h36 (.ptr (Heap.next h19) 0)) fun v43 =>
   ob (kstore 3 (.ptr (Heap.next h4) 0) v43 h36) fun h44 =>
   ob (kloadN 3 h44 (.ptr (Heap.next h4) 0)) fun v45 => (some (false, (.tuple [v45, (.int .i64 (.ofNat 0))]), h44)))) (fun p37 h38 => (some (true, p37, h38)))))) (fun p30 h31 => none)) (fun p20 h21 => (some (true, p20, h21))))) (fun p10 h11 => (some (true, p10, h11)))))
theorem F111_ok {S : FS} {D : FD} (hS : SpecsOK Tryz.prog S) (hD : DynOK Tryz.prog D) : SpecOK Tryz.prog 111 (F111 S D) :=
  SpecOK.of (c := match Tryz.f111.body with | some c => c | none => .skip) (by kernel_rfl) hS hD ⟨Tryz.func111, rfl, by decide⟩
    (.seq .n (.seq (.seq .n (.dup (.seq .n .n) .n)) (.seq .n (.seq (.seq .n (.seq .n (.dup (.seq .n .n) .n))) (.seq .n .n))))) 2 (fun args h => by kernel_rfl)
/-- slices.pdqsortOrdered[int] -/
noncomputable def F112 (S : FS) (D : FD) (args : List AV) (h : Heap) : Option (Bool × AV × Heap) :=
 kv4 args fun data_1 a_2 b_3 limit_4 =>
 ob (iterD (fun vs5 ds6 h7 => kv6 vs5 fun data_8 a_9 b_10 limit_11 wasBalanced_12 wasPartitioned_13 =>
  ob (ob (kbinI .sub b_10 a_9) fun v15 =>
   ob (kbinI .leq v15 (.int .i64 (.ofNat 12))) fun v16 =>
   kif v16
    (ob (S 159 [data_8, a_9, b_10] h7) fun r17 => kres r17 (fun v18 h19 =>
    (some ⟨1, [], ds6, h19⟩)) (fun p20 h21 => (some ⟨2, [p20], ds6, h21⟩)))
    (ob (kbinI .eql limit_11 (.int .i64 (.ofNat 0))) fun v22 =>
    kif v22
     (ob (S 160 [data_8, a_9, b_10] h7) fun r23 => kres r23 (fun v24 h25 =>
     (some ⟨1, [], ds6, h25⟩)) (fun p26 h27 => (some ⟨2, [p26], ds6, h27⟩)))
     (ob (aun .not wasBalanced_12) fun v28 =>
     ob (kif v28
      (ob (S 161 [data_8, a_9, b_10] h7) fun r30 => kres r30 (fun v31 h32 =>
      ob (kbinI .sub limit_11 (.int .i64 (.ofNat 1))) fun v35 =>
      (some ⟨0, [data_8, a_9, b_10, v35, wasBalanced_12, wasPartitioned_13, v15], ds6, h32⟩)) (fun p33 h34 => (some ⟨1, [p33], ds6, h34⟩)))
      ((some ⟨0, [data_8, a_9, b_10, limit_11, wasBalanced_12, wasPartitioned_13, v15], ds6, h7⟩))) fun r29 => kcase (J.i r29) [kv7 (J.vs r29) fun data_36 a_37 b_38 limit_39 wasBalanced_40 wasPartitioned_41 length_42 =>
      ob (S 162 [data_36, a_37, b_38] (J.h r29)) fun r43 => kres r43 (fun v44 h45 =>
      ob (aextract v44 0) fun v48 =>
      ob (aextract v44 1) fun v49 =>
      ob (kbinI .eql v49 (.int .i64 (.ofNat 2))) fun v50 =>
      ob (kif v50
       (ob (S 163 [data_36, a_37, b_38] h45) fun r52 => kres r52 (fun v53 h54 =>
       ob (kbinI .sub b_38 (.int .i64 (.ofNat 1))) fun v57 =>
       ob (kbinI .sub v48 a_37) fun v58 =>
       ob (kbinI .sub v57 v58) fun v59 =>
       (some ⟨0, [data_36, a_37, b_38, limit_39, wasBalanced_40, wasPartitioned_41, length_42, v59, (.int .i64 (.ofNat 1))], (J.ds r29), h54⟩)) (fun p55 h56 => (some ⟨1, [p55], (J.ds r29), h56⟩)))
       ((some ⟨0, [data_36, a_37, b_38, limit_39, wasBalanced_40, wasPartitioned_41, length_42, v48, v49], (J.ds r29), h45⟩))) fun r51 => kcase (J.i r51) [kv9 (J.vs r51) fun data_60 a_61 b_62 limit_63 wasBalanced_64 wasPartitioned_65 length_66 pivot_67 hint_68 =>
       ob (kgv true wasBalanced_64 (some wasPartitioned_65)) fun v69 =>
       ob (kpick wasBalanced_64 v69 (.bool false)) fun v70 =>
       ob (kgv true v70 (some hint_68)) fun v71 =>
       ob (kgv true v70 (kbinI .eql v71 (.int .i64 (.ofNat 1)))) fun v72 =>
       ob (kpick v70 v72 (.bool false)) fun v73 =>
       ob (kif v73
        (ob (S 164 [data_60, a_61, b_62] (J.h r51)) fun r75 => kres r75 (fun v76 h77 =>
        kif v76
         ((some ⟨1, [], (J.ds r51), h77⟩))
         ((some ⟨0, [data_60, a_61, b_62, limit_63, wasBalanced_64, wasPartitioned_65, length_66, pivot_67], (J.ds r51), h77⟩))) (fun p78 h79 => (some ⟨2, [p78], (J.ds r51), h79⟩)))
        ((some ⟨0, [data_60, a_61, b_62, limit_63, wasBalanced_64, wasPartitioned_65, length_66, pivot_67], (J.ds r51), (J.h r51)⟩))) fun r74 => kcase (J.i r74) [kv8 (J.vs r74) fun data_80 a_81 b_82 limit_83 wasBalanced_84 wasPartitioned_85 length_86 pivot_87 =>
        ob (kbinI .gtr a_81 (.int .i64 (.ofNat 0))) fun v88 =>
        ob (kgv true v88 (some data_80)) fun v89 =>
        ob (kgv true v88 (some a_81)) fun v90 =>
        ob (kgv true v88 (kbinI .sub v90 (.int .i64 (.ofNat 1)))) fun v91 =>
        ob (kgv true v88 (kia 1 v89 v91)) fun v92 =>
        ob (kgv true v88 (kload (J.h r74) v92)) fun v93 =>
        ob (kgv true v88 (some data_80)) fun v94 =>
        ob (kgv true v88 (some pivot_87)) fun v95 =>
        ob (kgv true v88 (kia 1 v94 v95)) fun v96 =>
        ob (kgv true v88 (kload (J.h r74) v96)) fun v97 =>
        ob (kgc true v88 (J.h r74) (S 165 [v93, v97] (J.h r74))) fun r98 => kres r98 (fun v99 h100 =>
        ob (kgv true v88 (aun .not v99)) fun v103 =>
        ob (kpick v88 v103 (.bool false)) fun v104 =>
        kif v104
         (ob (S 166 [data_80, a_81, b_82, pivot_87] h100) fun r105 => kres r105 (fun v106 h107 =>
         (some ⟨0, [data_80, v106, b_82, limit_83, wasBalanced_84, wasPartitioned_85], (J.ds r74), h107⟩)) (fun p108 h109 => (some ⟨2, [p108], (J.ds r74), h109⟩)))
         (ob (S 167 [data_80, a_81, b_82, pivot_87] h100) fun r110 => kres r110 (fun v111 h112 =>
         ob (aextract v111 0) fun v115 =>
         ob (aextract v111 1) fun v116 =>
         ob (kbinI .sub v115 a_81) fun v117 =>
         ob (kbinI .sub b_82 v115) fun v118 =>
         ob (kbinI .quo length_86 (.int .i64 (.ofNat 8))) fun v119 =>
         ob (kbinI .lss v117 v118) fun v120 =>
         ob (kif v120
          (ob (kbinI .geq v117 v119) fun v122 =>
          ob (S 112 [data_80, a_81, v115, limit_83] h112) fun r123 => kres r123 (fun v124 h125 =>
          ob (kbinI .add v115 (.int .i64 (.ofNat 1))) fun v128 =>
          (some ⟨0, [data_80, v128, b_82, limit_83, v122, v116], (J.ds r74), h125⟩)) (fun p126 h127 => (some ⟨1, [p126], (J.ds r74), h127⟩)))
          (ob (kbinI .geq v118 v119) fun v129 =>
          ob (kbinI .add v115 (.int .i64 (.ofNat 1))) fun v130 =>
          ob (S 112 [data_80, v130, b_82, limit_83] h112) fun r131 => kres r131 (fun v132 h133 =>
          (some ⟨0, [data_80, a_81, v115, limit_83, v129, v116], (J.ds r74), h133⟩)) (fun p134 h135 => (some ⟨1, [p134], (J.ds r74), h135⟩)))) fun r121 => kcase (J.i r121) [kv6 (J.vs r121) fun data_136 a_137 b_138 limit_139 wasBalanced_140 wasPartitioned_141 =>
          (some ⟨0, [data_136, a_137, b_138, limit_139, wasBalanced_140, wasPartitioned_141], (J.ds r121), (J.h r121)⟩),
         kv1 (J.vs r121) fun p142 => (some ⟨2, [p142], (J.ds r121), (J.h r121)⟩)]) (fun p113 h114 => (some ⟨2, [p113], (J.ds r74), h114⟩)))) (fun p101 h102 => (some ⟨2, [p101], (J.ds r74), h102⟩)),
       kv0 (J.vs r74) ((some ⟨1, [], (J.ds r74), (J.h r74)⟩)),
       kv1 (J.vs r74) fun p143 => (some ⟨2, [p143], (J.ds r74), (J.h r74)⟩)],
      kv1 (J.vs r51) fun p144 => (some ⟨2, [p144], (J.ds r51), (J.h r51)⟩)]) (fun p46 h47 => (some ⟨2, [p46], (J.ds r29), h47⟩)),
     kv1 (J.vs r29) fun p145 => (some ⟨2, [p145], (J.ds r29), (J.h r29)⟩)]))) fun r14 => kcase (J.i r14) [kv6 (J.vs r14) fun data_146 a_147 b_148 limit_149 wasBalanced_150 wasPartitioned_151 =>
   (some ⟨0, [data_146, a_147, b_148, limit_149, wasBalanced_150, wasPartitioned_151], (J.ds r14), (J.h r14)⟩),
  kv0 (J.vs r14) ((some ⟨1, [], (J.ds r14), (J.h r14)⟩)),
  kv1 (J.vs r14) fun p152 => (some ⟨2, [p152], (J.ds r14), (J.h r14)⟩)]) rounds [data_1, a_2, b_3, limit_4, (.bool true), (.bool true)] [] h) fun r153 => kcase (J.i r153) [kv0 (J.vs r153) ((dleave (fun h154 => (some (false, (.tuple []), h154))) (J.ds r153) (J.h r153))),
 kv1 (J.vs r153) fun p155 => (kds (J.ds r153) (some (true, p155, (J.h r153))))]
theorem F112_ok {S : FS} {D : FD} (hS : SpecsOK Tryz.prog S) (hD : DynOK Tryz.prog D) : SpecOK Tryz.prog 112 (F112 S D) :=
  SpecOK.of (c := match Tryz.f112.body with | some c => c | none => .skip) (by kernel_rfl) hS hD ⟨Tryz.func112, rfl, by decide⟩
    (.seq .n (.seq .n (.one (.loop [0, 1, 2, 3, 8, 9] [(.ret, []), (.pan, [])] (.join [(.norm, [0, 1, 2, 3, 8, 9]), (.ret, []), (.pan, [])] (.one (.seq .n (.seq (.seq .n (.dup (.seq .n .n) .n)) (.seq (.seq .n (.dup (.seq .n .n) .n)) (.seq (.seq .n (.join [(.norm, [0, 1, 2, 3, 8, 9, 10]), (.pan, [])] (.dup (.seq .n .n) .n))) (.seq .n (.seq (.seq .n (.join [(.norm, [0, 1, 2, 3, 8, 9, 10, 11, 12]), (.pan, [])] (.dup (.seq .n (.seq .n .n)) .n))) (.seq (.seq .n (.join [(.norm, [0, 1, 2, 3, 8, 9, 10, 11]), (.ret, []), (.pan, [])] (.dup (.seq .n (.dup .n .n)) .n))) (.seq (.seq .n (.dup (.seq .n (.seq .n .n)) .n)) (.seq .n (.seq .n (.seq .n (.seq .n (.seq .n (.join [(.norm, [0, 1, 2, 3, 8, 9]), (.pan, [])] (.dup (.seq .n (.seq .n .n)) (.seq .n (.seq .n .n))))))))))))))))))))))) 4 (fun args h => by kernel_rfl)
/-- roundhouse/trace.whole -/
noncomputable def F113 (S : FS) (D : FD) (args : List AV) (h : Heap) : Option (Bool × AV × Heap) :=
 kv1 args fun kind_1 =>
 ob (kbinI .eql kind_1 (.int .i64 (.ofNat 0))) fun v2 =>
 ob (kgv false v2 (some kind_1)) fun v3 =>
 ob (kgv false v2 (kbinI .eql v3 (.int .i64 (.ofNat 6)))) fun v4 =>
 ob (kpick v2 (.bool true) v4) fun v5 =>
 ob (kgv false v5 (some kind_1)) fun v6 =>
 ob (kgv false v5 (kbinI .eql v6 (.int .i64 (.ofNat 7)))) fun v7 =>
 ob (kpick v5 (.bool true) v7) fun v8 =>
 (some (false, v8, h))
theorem F113_ok {S : FS} {D : FD} (hS : SpecsOK Tryz.prog S) (hD : DynOK Tryz.prog D) : SpecOK Tryz.prog 113 (F113 S D) :=
  SpecOK.of (c := match Tryz.f113.body with | some c => c | none => .skip) (by kernel_rfl) hS hD ⟨Tryz.func113, rfl, by decide⟩
    (.seq .n (.seq .n .n)) 1 (fun args h => by kernel_rfl)
/-- slices.Contains[[]int,int] -/
noncomputable def F114 (S : FS) (D : FD) (args : List AV) (h : Heap) : Option (Bool × AV × Heap) :=
 kv2 args fun s_1 v2 =>
 ob (S 168 [s_1, v2] h) fun r3 => kres r3 (fun v4 h5 =>
 ob (kbinI .geq v4 (.int .i64 (.ofNat 0))) fun v8 =>
 (some (false, v8, h5))) (fun p6 h7 => (some (true, p6, h7)))
theorem F114_ok {S : FS} {D : FD} (hS : SpecsOK Tryz.prog S) (hD : DynOK Tryz.prog D) : SpecOK Tryz.prog 114 (F114 S D) :=
  SpecOK.of (c := match Tryz.f114.body with | some c => c | none => .skip) (by kernel_rfl) hS hD ⟨Tryz.func114, rfl, by decide⟩
    (.seq .n (.seq .n .n)) 2 (fun args h => by kernel_rfl)
/-- (roundhouse/trace.past).any -/
noncomputable def F115 (S : FS) (D : FD) (args : List AV) (h : Heap) : Option (Bool × AV × Heap) :=
 kv3 args fun l_1 x_2 kinds_3 =>
 knt l_1 (Heap.pushK h (.cells (AV.cells l_1) true 176) fun h4 =>
 knt x_2 (Heap.pushK h4 (.cells (AV.cells x_2) true 174) fun h5 =>
 ob (S 169 [kinds_3, (.func 170 [(.ptr (Heap.next h) 0), (.ptr (Heap.next h4) 0)])] h5) fun r6 => kres r6 (fun v7 h8 =>
 (some (false, v7, h8))) (fun p9 h10 => (some (true, p9, h10)))))
theorem F115_ok {S : FS} {D : FD} (hS : SpecsOK Tryz.prog S) (hD : DynOK Tryz.prog D) : SpecOK Tryz.prog 115 (F115 S D) :=
  SpecOK.of (c := match Tryz.f115.body with | some c => c | none => .skip) (by kernel_rfl) hS hD ⟨Tryz.func115, rfl, by decide⟩
    (.seq .n (.seq .n .n)) 3 (fun args h => by kernel_rfl)
/-- (roundhouse/trace.past).alive -/
noncomputable def F118 (S : FS) (D : FD) (args : List AV) (h : Heap) : Option (Bool × AV × Heap) :=
 kv2 args fun l_1 x_2 =>
 knt l_1 (Heap.pushK h (.cells (AV.cells l_1) true 176) fun h3 =>
 knt x_2 (Heap.pushK h3 (.cells (AV.cells x_2) true 174) fun h4 =>
 ob (kload h4 (.ptr (Heap.next h) 0)) fun v5 =>
 ob (S 173 [v5, (.func 174 [(.ptr (Heap.next h3) 0), (.ptr (Heap.next h) 0)])] h4) fun r6 => kres r6 (fun v7 h8 =>
 (some (false, v7, h8))) (fun p9 h10 => (some (true, p9, h10)))))
theorem F118_ok {S : FS} {D : FD} (hS : SpecsOK Tryz.prog S) (hD : DynOK Tryz.prog D) : SpecOK Tryz.prog 118 (F118 S D) :=
  SpecOK.of (c := match Tryz.f118.body with | some c => c | none => .skip) (by kernel_rfl) hS hD ⟨Tryz.func118, rfl, by decide⟩
    (.seq .n (.seq .n .n)) 2 (fun args h => by kernel_rfl)
/-- (roundhouse/trace.past).going -/
noncomputable def F119 (S : FS) (D : FD) (args : List AV) (h : Heap) : Option (Bool × AV × Heap) :=
 kv3 args fun l_1 j_2 x_3 =>
 knt l_1 (Heap.pushK h (.cells (AV.cells l_1) true 176) fun h4 =>
 knt j_2 (Heap.pushK h4 (.cells (AV.cells j_2) true 67) fun h5 =>
 knt x_3 (Heap.pushK h5 (.cells (AV.cells x_3) true 174) fun h6 =>
 ob (kload h6 (.ptr (Heap.next h) 0)) fun v7 =>
 ob (kloadN 6 h6 (.ptr (Heap.next h5) 0)) fun v8 =>
 ob (abuildSlice Tryz.prog 37 2 [(0, (.int .i64 (.ofNat 10))), (1, (.int .i64 (.ofNat 11)))]) fun r9 => Heap.pushK h6 (.cells r9.1 true r9.2.2) fun h10 =>
 ob (S 115 [v7, v8, (.slice (Heap.next h6) 0 2 2 r9.2.1)] h10) fun r11 => kres r11 (fun v12 h13 =>
 kif v12
  ((some (false, (.bool false), h13)))
  (ob (kfa 1 (.ptr (Heap.next h4) 0)) fun v16 =>
  ob (kload h13 v16) fun v17 =>
  ob (kfa 4 (.ptr (Heap.next h5) 0)) fun v18 =>
  ob (kload h13 v18) fun v19 =>
  ob (kia 5 v17 v19) fun v20 =>
  ob (kfa 4 v20) fun v21 =>
  ob (kload h13 v21) fun v22 =>
  ob (klenL v22) fun v23 =>
  ob (iterD (fun vs24 ds25 h26 => kv6 vs24 fun l_27 j_28 x_29 v30 v31 v32 =>
   ob (kbinI .lss v32 v31) fun v33 =>
   kif v33
    (ob (kia 2 v30 v32) fun v34 =>
    ob (kloadN 2 h26 v34) fun v35 =>
    Heap.pushK h26 (.cells [(.int .i64 (.ofNat 0)), (.int .i64 (.ofNat 0))] true 231) fun h36 =>
    ob (kstore 2 (.ptr (Heap.next h26) 0) v35 h36) fun h37 =>
    ob (kload h37 l_27) fun v38 =>
    ob (kloadN 6 h37 x_29) fun v39 =>
    ob (kloadN 2 h37 (.ptr (Heap.next h26) 0)) fun v40 =>
    ob (S 175 [v38, v39, v40] h37) fun r41 => kres r41 (fun v42 h43 =>
    ob (aun .not v42) fun v46 =>
    kif v46
     ((some ⟨2, [(.bool false)], ds25, h43⟩))
     (ob (kbinI .add v32 (.int .i64 (.ofNat 1))) fun v47 =>
     (some ⟨0, [l_27, j_28, x_29, v30, v31, v47], ds25, h43⟩))) (fun p44 h45 => (some ⟨3, [p44], ds25, h45⟩)))
    ((some ⟨1, [l_27, j_28, x_29], ds25, h26⟩))) rounds [(.ptr (Heap.next h) 0), (.ptr (Heap.next h4) 0), (.ptr (Heap.next h5) 0), v22, v23, (.int .i64 (.ofNat 0))] [] h13) fun r48 => kcase (J.i r48) [kv3 (J.vs r48) fun l_49 j_50 x_51 =>
   ob (kfa 0 j_50) fun v52 =>
   ob (kload (J.h r48) v52) fun v53 =>
   ob (S 169 [v53, (.func 176 [x_51, l_49])] (J.h r48)) fun r54 => kres r54 (fun v55 h56 =>
   ob (aun .not v55) fun v59 =>
   (dleave (fun h60 => (some (false, v59, h60))) (J.ds r48) h56)) (fun p57 h58 => (kds (J.ds r48) (some (true, p57, h58)))),
  kv1 (J.vs r48) fun v61 =>
   (dleave (fun h62 => (some (false, v61, h62))) (J.ds r48) (J.h r48)),
  kv1 (J.vs r48) fun p63 => (kds (J.ds r48) (some (true, p63, (J.h r48))))])) (fun p14 h15 => (some (true, p14, h15))))))
theorem F119_ok {S : FS} {D : FD} (hS : SpecsOK Tryz.prog S) (hD : DynOK Tryz.prog D) : SpecOK Tryz.prog 119 (F119 S D) :=
  SpecOK.of (c := match Tryz.f119.body with | some c => c | none => .skip) (by kernel_rfl) hS hD ⟨Tryz.func119, rfl, by decide⟩
    (.seq .n (.seq (.seq .n (.dup (.seq .n .n) .n)) (.seq (.seq .n (.one (.loop [3, 4, 5, 19, 20, 21] [(.exit 0, [3, 4, 5]), (.ret, [6]), (.pan, [])] (.seq .n (.seq (.dup .n .n) (.seq (.one (.seq .n (.seq .n (.dup (.seq .n .n) .n)))) .n)))))) (.seq .n .n)))) 3 (fun args h => by kernel_rfl)
/-- (roundhouse/trace.past).coded -/
noncomputable def F120 (S : FS) (D : FD) (args : List AV) (h : Heap) : Option (Bool × AV × Heap) :=
 kv3 args fun l_1 j_2 x_3 =>
 knt j_2 (Heap.pushK h (.cells (AV.cells j_2) true 67) fun h4 =>
 knt x_3 (Heap.pushK h4 (.cells (AV.cells x_3) true 174) fun h5 =>
 ob (kloadN 6 h5 (.ptr (Heap.next h4) 0)) fun v6 =>
 ob (abuildSlice Tryz.prog 37 1 [(0, (.int .i64 (.ofNat 11)))]) fun r7 => Heap.pushK h5 (.cells r7.1 true r7.2.2) fun h8 =>
 ob (S 115 [l_1, v6, (.slice (Heap.next h5) 0 1 1 r7.2.1)] h8) fun r9 => kres r9 (fun v10 h11 =>
 kif v10
  ((some (false, (.bool false), h11)))
  (ob (kloadN 6 h11 (.ptr (Heap.next h4) 0)) fun v14 =>
  ob (S 172 [l_1, v14] h11) fun r15 => kres r15 (fun v16 h17 =>
  ob (aun .not v16) fun v20 =>
  kif v20
   (ob (kfa 5 (.ptr (Heap.next h4) 0)) fun v21 =>
   ob (kload h17 v21) fun v22 =>
   ob (kbinI .eql v22 (.int .i64 (.ofNat 255))) fun v23 =>
   ob (kgv false v23 (kfa 5 (.ptr (Heap.next h4) 0))) fun v24 =>
   ob (kgv false v23 (kload h17 v24)) fun v25 =>
   ob (kgv false v23 (kbinI .eql v25 (.int .i64 (.ofNat 256)))) fun v26 =>
   ob (kpick v23 (.bool true) v26) fun v27 =>
   (some (false, v27, h17)))
   (ob (kfa 0 (.ptr (Heap.next h) 0)) fun v28 =>
   ob (kload h17 v28) fun v29 =>
   ob (klenL v29) fun v30 =>
   ob (iterD (fun vs31 ds32 h33 => kv6 vs31 fun l_34 x_35 codes_36 v37 v38 v39 =>
    ob (kbinI .lss v39 v38) fun v40 =>
    kif v40
     (ob (kia 1 v37 v39) fun v41 =>
     ob (kload h33 v41) fun v42 =>
     ob (kfa 1 x_35) fun v43 =>
     ob (kstore 1 v43 v42 h33) fun h44 =>
     ob (kloadN 6 h44 x_35) fun v45 =>
     ob (S 171 [l_34, (.int .i64 (.ofNat 5)), v45] h44) fun r46 => kres r46 (fun v47 h48 =>
     ob (aextract v47 0) fun v51 =>
     ob (aextract v47 1) fun v52 =>
     Heap.pushK h48 (.cells [(.int .i64 (.ofNat 0)), (.int .i64 (.ofNat 0)), (.int .i64 (.ofNat 0)), (.int .i64 (.ofNat 0)), (.int .i64 (.ofNat 0)), (.int .i64 (.ofNat 0))] true 174) fun h53 =>
     ob (kstore 6 (.ptr (Heap.next h48) 0) v51 h53) fun h54 =>
     ob (aun .not v52) fun v55 =>
     kif v55
      ((some ⟨2, [(.bool false)], ds32, h54⟩))
      (ob (kfa 5 (.ptr (Heap.next h48) 0)) fun v56 =>
      ob (kload h54 v56) fun v57 =>
      ob (abuildSlice Tryz.prog 37 1 [(0, v57)]) fun r58 => Heap.pushK h54 (.cells r58.1 true r58.2.2) fun h59 =>
      ob (aappend Tryz.prog h59 37 37 codes_36 (.slice (Heap.next h54) 0 1 1 r58.2.1)) fun r60 =>
      ob (kbinI .add v39 (.int .i64 (.ofNat 1))) fun v61 =>
      (some ⟨0, [l_34, x_35, r60.1, v37, v38, v61], ds32, r60.2⟩))) (fun p49 h50 => (some ⟨3, [p49], ds32, h50⟩)))
     ((some ⟨1, [x_35, codes_36], ds32, h33⟩))) rounds [l_1, (.ptr (Heap.next h4) 0), AV.nilslice, v29, v30, (.int .i64 (.ofNat 0))] [] h17) fun r62 => kcase (J.i r62) [kv2 (J.vs r62) fun x_63 codes_64 =>
    ob (klenL codes_64) fun v65 =>
    ob (kbinI .eql v65 (.int .i64 (.ofNat 0))) fun v66 =>
    ob (kif v66
     (ob (abuildSlice Tryz.prog 37 1 [(0, (.int .i64 (.ofNat 0)))]) fun r68 => Heap.pushK (J.h r62) (.cells r68.1 true r68.2.2) fun h69 =>
     (some ⟨0, [x_63, (.slice (Heap.next (J.h r62)) 0 1 1 r68.2.1)], (J.ds r62), h69⟩))
     ((some ⟨0, [x_63, codes_64], (J.ds r62), (J.h r62)⟩))) fun r67 => kcase (J.i r67) [kv2 (J.vs r67) fun x_70 codes_71 =>
     ob (kfa 5 x_70) fun v72 =>
     ob (kload (J.h r67) v72) fun v73 =>
     ob (S 177 [codes_71] (J.h r67)) fun r74 => kres r74 (fun v75 h76 =>
     kre (kload h76 v72) v73 (ob (kbinI .eql v75 v73) fun v79 =>
     (dleave (fun h80 => (some (false, v79, h80))) (J.ds r67) h76))) (fun p77 h78 => none)],
   kv1 (J.vs r62) fun v81 =>
    (dleave (fun h82 => (some (false, v81, h82))) (J.ds r62) (J.h r62)),
   kv1 (J.vs r62) fun p83 => (kds (J.ds r62) (some (true, p83, (J.h r62))))])) (fun p18 h19 => (some (true, p18, h19))))) (fun p12 h13 => (some (true, p12, h13)))))
theorem F120_ok {S : FS} {D : FD} (hS : SpecsOK Tryz.prog S) (hD : DynOK Tryz.prog D) : SpecOK Tryz.prog 120 (F120 S D) :=
  SpecOK.of (c := match Tryz.f120.body with | some c => c | none => .skip) (by kernel_rfl) hS hD ⟨Tryz.func120, rfl, by decide⟩
    (.seq .n (.seq (.one (.seq .n (.dup (.seq .n .n) (.seq .n (.dup (.seq .n .n) .n))))) (.seq .n (.seq (.seq .n (.one (.loop [0, 5, 7, 31, 32, 33] [(.exit 1, [5, 7]), (.ret, [6]), (.pan, [])] (.seq .n (.seq (.dup .n .n) (.seq (.one (.seq .n (.seq .n (.seq .n (.seq (.seq .n (.dup (.seq .n .n) .n)) .n))))) .n)))))) (.seq (.seq .n (.join [(.norm, [5, 7])] (.dup .n .n))) (.seq .n .n)))))) 3 (fun args h => by kernel_rfl)
/-- slices.DeleteFunc[[]int,int] -/
noncomputable def F121 (S : FS) (D : FD) (args : List AV) (h : Heap) : Option (Bool × AV × Heap) :=
 kv2 args fun s_1 del_2 =>
 ob (S 178 [s_1, del_2] h) fun r3 => kres r3 (fun v4 h5 =>
 ob (kbinI .eql v4 (.int .i64 (.negSucc 0))) fun v8 =>
 kif v8
  ((some (false, s_1, h5)))
  (ob (kbinI .add v4 (.int .i64 (.ofNat 1))) fun v9 =>
  ob (iterD (fun vs10 ds11 h12 => kv4 vs10 fun s_13 del_14 i_15 j_16 =>
   ob (klenL s_13) fun v17 =>
   ob (kbinI .lss j_16 v17) fun v18 =>
   kif v18
    (ob (kia 1 s_13 j_16) fun v19 =>
    ob (kload h12 v19) fun v20 =>
    ob (D del_14 [v20] h12) fun r21 => kres r21 (fun v22 h23 =>
    ob (aun .not v22) fun v26 =>
    ob (kif v26
     (ob (kia 1 s_13 i_15) fun v28 =>
     ob (kstore 1 v28 v20 h23) fun h29 =>
     ob (kbinI .add i_15 (.int .i64 (.ofNat 1))) fun v30 =>
     (some ⟨0, [s_13, del_14, v30, j_16], ds11, h29⟩))
     ((some ⟨0, [s_13, del_14, i_15, j_16], ds11, h23⟩))) fun r27 => kcase (J.i r27) [kv4 (J.vs r27) fun s_31 del_32 i_33 j_34 =>
     ob (kbinI .add j_34 (.int .i64 (.ofNat 1))) fun v35 =>
     (some ⟨0, [s_31, del_32, i_33, v35], (J.ds r27), (J.h r27)⟩)]) (fun p24 h25 => (some ⟨2, [p24], ds11, h25⟩)))
    ((some ⟨1, [s_13, i_15], ds11, h12⟩))) rounds [s_1, del_2, v4, v9] [] h5) fun r36 => kcase (J.i r36) [kv2 (J.vs r36) fun s_37 i_38 =>
   ob (aslice Tryz.prog 37 s_37 (some i_38) none none) fun v39 =>
   ob (aclear Tryz.prog (J.h r36) 37 v39) fun h40 =>
   ob (aslice Tryz.prog 37 s_37 none (some i_38) none) fun v41 =>
   (dleave (fun h42 => (some (false, v41, h42))) (J.ds r36) h40),
  kv1 (J.vs r36) fun p43 => (kds (J.ds r36) (some (true, p43, (J.h r36))))])) (fun p6 h7 => (some (true, p6, h7)))
theorem F121_ok {S : FS} {D : FD} (hS : SpecsOK Tryz.prog S) (hD : DynOK Tryz.prog D) : SpecOK Tryz.prog 121 (F121 S D) :=
  SpecOK.of (c := match Tryz.f121.body with | some c => c | none => .skip) (by kernel_rfl) hS hD ⟨Tryz.func121, rfl, by decide⟩
    (.seq .n (.seq .n (.seq (.seq .n (.dup (.seq .n .n) .n)) (.seq (.seq .n (.one (.loop [0, 1, 5, 6] [(.exit 0, [0, 5]), (.pan, [])] (.seq (.seq .n (.dup .n .n)) (.seq (.one (.seq .n (.seq .n (.join [(.norm, [0, 1, 5, 6])] (.dup (.seq .n .n) .n))))) .n))))) (.seq .n (.seq .n .n)))))) 2 (fun args h => by kernel_rfl)
/-- roundhouse/tally.silent[bool]$1 -/
noncomputable def F122 (S : FS) (D : FD) (args : List AV) (h : Heap) : Option (Bool × AV × Heap) :=
 kv2 args fun n_1 v2 =>
 ob (kload h v2) fun v3 =>
 ob (alookup Tryz.prog h 180 v3 n_1 false) fun v4 =>
 ob (kbinO Tryz.prog .neq 184 true v4 AV.nilptr) fun v5 =>
 (some (false, v5, h))
theorem F122_ok {S : FS} {D : FD} (hS : SpecsOK Tryz.prog S) (hD : DynOK Tryz.prog D) : SpecOK Tryz.prog 122 (F122 S D) :=
  SpecOK.of (c := match Tryz.f122.body with | some c => c | none => .skip) (by kernel_rfl) hS hD ⟨Tryz.func122, rfl, by decide⟩
    (.seq .n (.seq .n .n)) 2 (fun args h => by kernel_rfl)
/-- roundhouse/tally.silent[int]$1 -/
noncomputable def F123 (S : FS) (D : FD) (args : List AV) (h : Heap) : Option (Bool × AV × Heap) :=
 kv2 args fun n_1 v2 =>
 ob (kload h v2) fun v3 =>
 ob (alookup Tryz.prog h 181 v3 n_1 false) fun v4 =>
 ob (kbinO Tryz.prog .neq 198 true v4 AV.nilptr) fun v5 =>
 (some (false, v5, h))
theorem F123_ok {S : FS} {D : FD} (hS : SpecsOK Tryz.prog S) (hD : DynOK Tryz.prog D) : SpecOK Tryz.prog 123 (F123 S D) :=
  SpecOK.of (c := match Tryz.f123.body with | some c => c | none => .skip) (by kernel_rfl) hS hD ⟨Tryz.func123, rfl, by decide⟩
    (.seq .n (.seq .n .n)) 2 (fun args h => by kernel_rfl)
/-- (roundhouse/cores.Layout).may -/
noncomputable def F124 (S : FS) (D : FD) (args : List AV) (h : Heap) : Option (Bool × AV × Heap) :=
 kv1 args fun l_1 =>
 knt l_1 (Heap.pushK h (.cells (AV.cells l_1) true 57) fun h2 =>
 ob (kfa 0 (.ptr (Heap.next h) 0)) fun v3 =>
 ob (kload h2 v3) fun v4 =>
 ob (S 179 [v4, (.int .i64 (.ofNat 1)), (.int .i64 (.ofNat 8))] h2) fun r5 => kres r5 (fun v6 h7 =>
 ob (kgv true v6 (kfa 1 (.ptr (Heap.next h) 0))) fun v10 =>
 ob (kgv true v6 (kload h7 v10)) fun v11 =>
 ob (kgc true v6 h7 (S 179 [v11, (.int .i64 (.ofNat 1)), (.int .i64 (.ofNat 64))] h7)) fun r12 => kres r12 (fun v13 h14 =>
 ob (kpick v6 v13 (.bool false)) fun v17 =>
 ob (kgv true v17 (kfa 0 (.ptr (Heap.next h) 0))) fun v18 =>
 ob (kgv true v17 (kload h14 v18)) fun v19 =>
 ob (kgv true v17 (kfa 1 (.ptr (Heap.next h) 0))) fun v20 =>
 ob (kgv true v17 (kload h14 v20)) fun v21 =>
 ob (kgv true v17 (kbinI .mul v19 v21)) fun v22 =>
 ob (kgv true v17 (kbinI .leq v22 (.int .i64 (.ofNat 256)))) fun v23 =>
 ob (kpick v17 v23 (.bool false)) fun v24 =>
 (some (false, v24, h14))) (fun p15 h16 => (some (true, p15, h16)))) (fun p8 h9 => (some (true, p8, h9))))
theorem F124_ok {S : FS} {D : FD} (hS : SpecsOK Tryz.prog S) (hD : DynOK Tryz.prog D) : SpecOK Tryz.prog 124 (F124 S D) :=
  SpecOK.of (c := match Tryz.f124.body with | some c => c | none => .skip) (by kernel_rfl) hS hD ⟨Tryz.func124, rfl, by decide⟩
    (.seq .n (.seq .n .n)) 1 (fun args h => by kernel_rfl)
/-- roundhouse/pool.New -/
noncomputable def F125 (S : FS) (D : FD) (args : List AV) (h : Heap) : Option (Bool × AV × Heap) :=
 kv1 args fun l_1 =>
 knt l_1 (Heap.pushK h (.cells (AV.cells l_1) true 57) fun h2 =>
 ob (kloadN 2 h2 (.ptr (Heap.next h) 0)) fun v3 =>
 ob (S 79 [v3] h2) fun r4 => kres r4 (fun v5 h6 =>
 ob (kbinI .neq v5 (.int .i64 (.ofNat 0))) fun v9 =>
 kif v9
  ((some (false, AV.nilptr, h6)))
  (ob (kloadN 2 h6 (.ptr (Heap.next h) 0)) fun v10 =>
  Heap.pushK h6 (.map [] [] 0) fun h11 =>
  ob (abuild Tryz.prog 203 [(0, v10), (1, (.map (Heap.next h6)))]) fun v12 =>
  knt v12 (Heap.pushK h11 (.cells (AV.cells v12) true 203) fun h13 =>
  (some (false, (.ptr (Heap.next h11) 0), h13))))) (fun p7 h8 => (some (true, p7, h8))))
theorem F125_ok {S : FS} {D : FD} (hS : SpecsOK Tryz.prog S) (hD : DynOK Tryz.prog D) : SpecOK Tryz.prog 125 (F125 S D) :=
  SpecOK.of (c := match Tryz.f125.body with | some c => c | none => .skip) (by kernel_rfl) hS hD ⟨Tryz.func125, rfl, by decide⟩
    (.seq .n (.seq (.seq .n (.dup (.seq .n .n) .n)) (.seq .n .n))) 1 (fun args h => by kernel_rfl)
/-- roundhouse/replay.New -/
noncomputable def F126 (S : FS) (D : FD) (args : List AV) (h : Heap) : Option (Bool × AV × Heap) :=
 kv1 args fun most_1 =>
 ob (kbinI .lss most_1 (.int .i64 (.ofNat 1))) fun v2 =>
 ob (kgv false v2 (some most_1)) fun v3 =>
 ob (kgv false v2 (kbinI .gtr v3 (.int .i64 (.ofNat 64)))) fun v4 =>
 ob (kpick v2 (.bool true) v4) fun v5 =>
 kif v5
  ((some (false, AV.nilptr, h)))
  (Heap.pushK h (.map [] [] 0) fun h6 =>
  Heap.pushK h6 (.map [] [] 0) fun h7 =>
  ob (abuild Tryz.prog 281 [(0, most_1), (1, (.map (Heap.next h))), (2, (.map (Heap.next h6)))]) fun v8 =>
  knt v8 (Heap.pushK h7 (.cells (AV.cells v8) true 281) fun h9 =>
  (some (false, (.ptr (Heap.next h7) 0), h9))))
theorem F126_ok {S : FS} {D : FD} (hS : SpecsOK Tryz.prog S) (hD : DynOK Tryz.prog D) : SpecOK Tryz.prog 126 (F126 S D) :=
  SpecOK.of (c := match Tryz.f126.body with | some c => c | none => .skip) (by kernel_rfl) hS hD ⟨Tryz.func126, rfl, by decide⟩
    (.seq .n (.seq (.seq .n (.dup (.seq .n .n) .n)) (.seq .n .n))) 1 (fun args h => by kernel_rfl)
/-- (*roundhouse/ctl.Ctl).Submit -/
noncomputable def F127 (S : FS) (D : FD) (args : List AV) (h : Heap) : Option (Bool × AV × Heap) :=
 kv2 args fun c_1 j_2 =>
 knt j_2 (Heap.pushK h (.cells (AV.cells j_2) true 67) fun h3 =>
 ob (kfa 1 (.ptr (Heap.next h) 0)) fun v4 =>
 ob (kload h3 v4) fun v5 =>
 ob (S 181 [v5] h3) fun r6 => kres r6 (fun v7 h8 =>
 ob (kbinO Tryz.prog .eql 48 true c_1 AV.nilptr) fun v11 =>
 ob (kgv false v11 (kfa 0 (.ptr (Heap.next h) 0))) fun v12 =>
 ob (kgv false v11 (kload h8 v12)) fun v13 =>
 ob (kgc false v11 h8 (S 182 [v13] h8)) fun r14 => kres r14 (fun v15 h16 =>
 ob (kgv false v11 (aun .not v15)) fun v19 =>
 ob (kpick v11 (.bool true) v19) fun v20 =>
 kif v20
  ((some (false, (.tuple [(.int .i64 (.ofNat 0)), (.int .i64 (.ofNat 1))]), h16)))
  (ob (kbinI .neq v7 (.int .i64 (.ofNat 0))) fun v21 =>
  kif v21
   ((some (false, (.tuple [(.int .i64 (.ofNat 0)), v7]), h16)))
   (ob (kfa 1 (.ptr (Heap.next h) 0)) fun v22 =>
   ob (kload h16 v22) fun v23 =>
   ob (S 183 [v23, (.func 180 [])] h16) fun r24 => kres r24 (fun v25 h26 =>
   kif v25
    ((some (false, (.tuple [(.int .i64 (.ofNat 0)), (.int .i64 (.ofNat 1))]), h26)))
    (ob (knil c_1) fun v29 =>
    ob (kfa 1 v29) fun v30 =>
    ob (kload h26 v30) fun v31 =>
    ob (klenL v31) fun v32 =>
    ob (kbinI .eql v32 (.int .i64 (.ofNat 16))) fun v33 =>
    kif v33
     ((some (false, (.tuple [(.int .i64 (.ofNat 0)), (.int .i64 (.ofNat 6))]), h26)))
     (ob (kfa 0 (.ptr (Heap.next h) 0)) fun v34 =>
     ob (kload h26 v34) fun v35 =>
     ob (kfa 1 (.ptr (Heap.next h) 0)) fun v36 =>
     ob (kload h26 v36) fun v37 =>
     ob (knil c_1) fun v38 =>
     ob (kfa 1 v38) fun v39 =>
     ob (kload h26 v39) fun v40 =>
     ob (klenL v40) fun v41 =>
     ob (kbinI .add v41 (.int .i64 (.ofNat 1))) fun v42 =>
     ob (S 40 [v35] h26) fun r43 => kres r43 (fun v44 h45 =>
     kre (kload h45 v39) v40 (kre (kload h45 v36) v37 (ob (S 128 [v37] h45) fun r48 => kres r48 (fun v49 h50 =>
     kre (kload h50 v39) v40 (ob (abuild Tryz.prog 67 [(0, v44), (1, v49)]) fun v53 =>
     ob (abuild Tryz.prog 117 [(0, v53), (1, v42)]) fun v54 =>
     kfree h50 (knt v54 (Heap.pushK h50 (.cells (AV.cells v54) true 117) fun h55 =>
     ob (knil (.ptr (Heap.next h50) 0)) fun v56 =>
     ob (kfa 0 v56) fun v57 =>
     ob (kfa 1 v57) fun v58 =>
     ob (kload h55 v58) fun v59 =>
     ob (klenL v59) fun v60 =>
     ob (iterD (fun vs61 ds62 h63 => kv4 vs61 fun c_64 x_65 v66 v67 =>
      ob (kbinI .lss v67 v66) fun v68 =>
      kif v68
       (ob (knil x_65) fun v69 =>
       ob (kfa 0 v69) fun v70 =>
       ob (kfa 1 v70) fun v71 =>
       ob (kload h63 v71) fun v72 =>
       ob (knil x_65) fun v73 =>
       ob (kfa 0 v73) fun v74 =>
       ob (kfa 1 v74) fun v75 =>
       ob (kload h63 v75) fun v76 =>
       ob (kia 5 v76 v67) fun v77 =>
       ob (kfa 4 v77) fun v78 =>
       ob (kload h63 v78) fun v79 =>
       ob (S 129 [v79] h63) fun r80 => kres r80 (fun v81 h82 =>
       kre (kload h82 v71) v72 (ob (kia 5 v72 v67) fun v85 =>
       ob (kfa 4 v85) fun v86 =>
       ob (kstore 1 v86 v81 h82) fun h87 =>
       ob (kbinI .add v67 (.int .i64 (.ofNat 1))) fun v88 =>
       (some ⟨0, [c_64, x_65, v66, v88], ds62, h87⟩))) (fun p83 h84 => none))
       ((some ⟨1, [c_64, x_65], ds62, h63⟩))) rounds [c_1, (.ptr (Heap.next h50) 0), v60, (.int .i64 (.ofNat 0))] [] h55) fun r89 => kcase (J.i r89) [kv2 (J.vs r89) fun c_90 x_91 =>
      ob (S 184 [x_91] (J.h r89)) fun r92 => kres r92 (fun v93 h94 =>
      ob (knil c_90) fun v97 =>
      ob (kfa 1 v97) fun v98 =>
      ob (kload h94 v98) fun v99 =>
      ob (abuildSlice Tryz.prog 110 1 [(0, x_91)]) fun r100 => Heap.pushK h94 (.cells r100.1 true r100.2.2) fun h101 =>
      ob (aappend Tryz.prog h101 110 110 v99 (.slice (Heap.next h94) 0 1 1 r100.2.1)) fun r102 =>
      ob (knil c_90) fun v103 =>
      ob (kfa 1 v103) fun v104 =>
      ob (kstore 1 v104 r102.1 r102.2) fun h105 =>
      ob (knil x_91) fun v106 =>
      ob (kfa 2 v106) fun v107 =>
      ob (kload h105 v107) fun v108 =>
      (dleave (fun h109 => (some (false, (.tuple [v108, (.int .i64 (.ofNat 0))]), h109))) (J.ds r89) h105)) (fun p95 h96 => (kds (J.ds r89) (some (true, p95, h96)))),
     kv1 (J.vs r89) fun p110 => (kds (J.ds r89) (some (true, p110, (J.h r89))))])))) (fun p51 h52 => none)))) (fun p46 h47 => none)))) (fun p27 h28 => (some (true, p27, h28)))))) (fun p17 h18 => (some (true, p17, h18)))) (fun p9 h10 => (some (true, p9, h10))))
theorem F127_ok {S : FS} {D : FD} (hS : SpecsOK Tryz.prog S) (hD : DynOK Tryz.prog D) : SpecOK Tryz.prog 127 (F127 S D) :=
  SpecOK.of (c := match Tryz.f127.body with | some c => c | none => .skip) (by kernel_rfl) hS hD ⟨Tryz.func127, rfl, by decide⟩
    (.seq .n (.seq .n (.seq .n (.seq (.one (.seq .n (.dup (.seq .n .n) (.seq .n (.dup (.seq .n .n) (.seq .n (.dup (.seq .n .n) (.seq .n (.dup (.seq .n .n) .n))))))))) (.seq .n (.seq (.seq .n (.one (.loop [0, 8, 58, 59] [(.exit 1, [0, 8]), (.pan, [])] (.seq .n (.seq (.dup .n .n) (.seq (.one (.seq .n .n)) .n)))))) (.seq .n (.seq .n (.seq .n .n))))))))) 2 (fun args h => by kernel_rfl)
/-- slices.Clone[[]roundhouse/api.Step,roundhouse/api.Step] -/
noncomputable def F128 (S : FS) (D : FD) (args : List AV) (h : Heap) : Option (Bool × AV × Heap) :=
 kv1 args fun s_1 =>
 ob (kbinO Tryz.prog .eql 65 true s_1 AV.nilslice) fun v2 =>
 kif v2
  ((some (false, AV.nilslice, h)))
  (ob (abuildSlice Tryz.prog 65 0 []) fun r3 => Heap.pushK h (.cells r3.1 true r3.2.2) fun h4 =>
  ob (aappend Tryz.prog h4 65 65 (.slice (Heap.next h) 0 0 0 r3.2.1) s_1) fun r5 =>
  (some (false, r5.1, r5.2)))
theorem F128_ok {S : FS} {D : FD} (hS : SpecsOK Tryz.prog S) (hD : DynOK Tryz.prog D) : SpecOK Tryz.prog 128 (F128 S D) :=
  SpecOK.of (c := match Tryz.f128.body with | some c => c | none => .skip) (by kernel_rfl) hS hD ⟨Tryz.func128, rfl, by decide⟩
    (.seq .n (.seq (.seq .n (.dup (.seq .n .n) .n)) (.seq .n .n))) 1 (fun args h => by kernel_rfl)
/-- slices.Clone[[]roundhouse/api.Edge,roundhouse/api.Edge] -/
noncomputable def F129 (S : FS) (D : FD) (args : List AV) (h : Heap) : Option (Bool × AV × Heap) :=
 kv1 args fun s_1 =>
 ob (kbinO Tryz.prog .eql 62 true s_1 AV.nilslice) fun v2 =>
 kif v2
  ((some (false, AV.nilslice, h)))
  (ob (abuildSlice Tryz.prog 62 0 []) fun r3 => Heap.pushK h (.cells r3.1 true r3.2.2) fun h4 =>
  ob (aappend Tryz.prog h4 62 62 (.slice (Heap.next h) 0 0 0 r3.2.1) s_1) fun r5 =>
  (some (false, r5.1, r5.2)))
theorem F129_ok {S : FS} {D : FD} (hS : SpecsOK Tryz.prog S) (hD : DynOK Tryz.prog D) : SpecOK Tryz.prog 129 (F129 S D) :=
  SpecOK.of (c := match Tryz.f129.body with | some c => c | none => .skip) (by kernel_rfl) hS hD ⟨Tryz.func129, rfl, by decide⟩
    (.seq .n (.seq (.seq .n (.dup (.seq .n .n) .n)) (.seq .n .n))) 1 (fun args h => by kernel_rfl)
end Go.Rh.Tryz
