/- Printed by wip/tools/gen.py: functions of the program as plain functions over abstract values, each with its proof. -/
import Derived.Test.YtepgjdoablhgmaaGreatProg
import Derived.Test.YtepgjdoablhgmaaGreatRh3
set_option maxRecDepth 1000000
set_option linter.unusedVariables false
namespace Go.Rh.Tryz
open Go.Proofs
/-- (*roundhouse/net.Net).Send -/
noncomputable def F131 (S : FS) (D : FD) (args : List AV) (h : Heap) : Option (Bool × AV × Heap) :=
 kv2 args fun n_1 l_2 =>
 ob (kbinO Tryz.prog .eql 70 true n_1 AV.nilptr) fun v3 =>
 kif v3
  ((some (false, (.int .i64 (.ofNat 0)), h)))
  (ob (klenL l_2) fun v4 =>
  ob (knil n_1) fun v5 =>
  ob (kfa 0 v5) fun v6 =>
  ob (kload h v6) fun v7 =>
  ob (knil n_1) fun v8 =>
  ob (kfa 2 v8) fun v9 =>
  ob (kload h v9) fun v10 =>
  ob (klenL v10) fun v11 =>
  ob (kbinI .sub v7 v11) fun v12 =>
  ob (amaxs false [v4, v12]) fun v13 =>
  ob (knil n_1) fun v14 =>
  ob (kfa 2 v14) fun v15 =>
  ob (kload h v15) fun v16 =>
  ob (aslice Tryz.prog 187 l_2 none (some v13) none) fun v17 =>
  ob (aappend Tryz.prog h 187 187 v16 v17) fun r18 =>
  ob (knil n_1) fun v19 =>
  ob (kfa 2 v19) fun v20 =>
  ob (kstore 1 v20 r18.1 r18.2) fun h21 =>
  ob (knil n_1) fun v22 =>
  ob (kfa 1 v22) fun v23 =>
  ob (kload h21 v23) fun v24 =>
  ob (klenL l_2) fun v25 =>
  ob (kbinI .sub v25 v13) fun v26 =>
  ob (kbinI .add v24 v26) fun v27 =>
  ob (knil n_1) fun v28 =>
  ob (kfa 1 v28) fun v29 =>
  ob (kstore 1 v29 v27 h21) fun h30 =>
  (some (false, v13, h30)))
theorem F131_ok {S : FS} {D : FD} (hS : SpecsOK Tryz.prog S) (hD : DynOK Tryz.prog D) : SpecOK Tryz.prog 131 (F131 S D) :=
  SpecOK.of (c := match Tryz.f131.body with | some c => c | none => .skip) (by kernel_rfl) hS hD ⟨Tryz.func131, rfl, by decide⟩
    (.seq .n (.seq (.seq .n (.dup (.seq .n .n) .n)) (.seq .n (.seq .n (.seq .n (.seq .n .n)))))) 2 (fun args h => by kernel_rfl)
/-- (*roundhouse/world.World).deliver -/
noncomputable def F133 (S : FS) (D : FD) (args : List AV) (h : Heap) : Option (Bool × AV × Heap) :=
 kv3 args fun w_1 at_2 c_3 =>
 knt c_3 (Heap.pushK h (.cells (AV.cells c_3) true 237) fun h4 =>
 ob (knil w_1) fun v5 =>
 ob (kfa 2 v5) fun v6 =>
 ob (kload h4 v6) fun v7 =>
 ob (S 191 [v7, at_2] h4) fun r8 => kres r8 (fun v9 h10 =>
 ob (aextract v9 0) fun v13 =>
 ob (aextract v9 1) fun v14 =>
 ob (aun .not v14) fun v15 =>
 kif v15
  ((some (false, (.bool false), h10)))
  (ob (S 192 [v13] h10) fun r16 => kres r16 (fun v17 h18 =>
  ob (aextract v17 0) fun v21 =>
  ob (aextract v17 1) fun v22 =>
  Heap.pushK h18 (.cells [(.int .i64 (.ofNat 0)), (.int .i64 (.ofNat 0)), (.int .i64 (.ofNat 0)), (.int .i64 (.ofNat 0)), (.int .i64 (.ofNat 0)), (.int .i64 (.ofNat 0)), (.int .i64 (.ofNat 0)), (.str 0 0)] true 300) fun h23 =>
  ob (kstore 8 (.ptr (Heap.next h18) 0) v21 h23) fun h24 =>
  ob (kbinI .neq v22 (.int .i64 (.ofNat 0))) fun v25 =>
  ob (kif v25
   ((some ⟨0, [], [], h24⟩))
   (ob (kfa 2 (.ptr (Heap.next h18) 0)) fun v27 =>
   ob (kload h24 v27) fun v28 =>
   ob (kbinI .eql v28 (.int .i64 (.negSucc 0))) fun v29 =>
   ob (kif v29
    (ob (knil w_1) fun v31 =>
    ob (kfa 1 v31) fun v32 =>
    ob (kload h24 v32) fun v33 =>
    ob (S 193 [v33, v13] h24) fun r34 => kres r34 (fun v35 h36 =>
    (some ⟨0, [], [], h36⟩)) (fun p37 h38 => (some ⟨1, [p37], [], h38⟩)))
    (ob (knil w_1) fun v39 =>
    ob (kfa 2 v39) fun v40 =>
    ob (kload h24 v40) fun v41 =>
    ob (kfa 2 (.ptr (Heap.next h18) 0)) fun v42 =>
    ob (kload h24 v42) fun v43 =>
    ob (kloadN 3 h24 (.ptr (Heap.next h) 0)) fun v44 =>
    ob (S 9 [w_1, v43] h24) fun r45 => kres r45 (fun v46 h47 =>
    kre (kloadN 3 h47 (.ptr (Heap.next h) 0)) v44 (kre (kload h47 v40) v41 (ob (S 194 [v46, v13, v44] h47) fun r50 => kres r50 (fun v51 h52 =>
    kre (kload h52 v40) v41 (ob (S 131 [v41, v51] h52) fun r55 => kres r55 (fun v56 h57 =>
    (some ⟨0, [], [], h57⟩)) (fun p58 h59 => (some ⟨1, [p58], [], h59⟩)))) (fun p53 h54 => none)))) (fun p48 h49 => none))) fun r30 => kcase (J.i r30) [kv0 (J.vs r30) ((some ⟨0, [], (J.ds r30), (J.h r30)⟩)),
   kv1 (J.vs r30) fun p60 => (some ⟨1, [p60], (J.ds r30), (J.h r30)⟩)])) fun r26 => kcase (J.i r26) [kv0 (J.vs r26) ((dleave (fun h61 => (some (false, (.bool true), h61))) (J.ds r26) (J.h r26))),
  kv1 (J.vs r26) fun p62 => (kds (J.ds r26) (some (true, p62, (J.h r26))))]) (fun p19 h20 => (some (true, p19, h20))))) (fun p11 h12 => (some (true, p11, h12))))
theorem F133_ok {S : FS} {D : FD} (hS : SpecsOK Tryz.prog S) (hD : DynOK Tryz.prog D) : SpecOK Tryz.prog 133 (F133 S D) :=
  SpecOK.of (c := match Tryz.f133.body with | some c => c | none => .skip) (by kernel_rfl) hS hD ⟨Tryz.func133, rfl, by decide⟩
    (.seq .n (.seq .n (.seq (.seq .n (.dup (.seq .n .n) .n)) (.seq .n (.seq (.one (.seq .n (.join [(.norm, []), (.pan, [])] (.dup .n (.seq .n (.join [(.norm, []), (.pan, [])] (.dup .n .n))))))) (.seq .n .n)))))) 3 (fun args h => by kernel_rfl)
/-- (*roundhouse/net.Net).Drop -/
noncomputable def F134 (S : FS) (D : FD) (args : List AV) (h : Heap) : Option (Bool × AV × Heap) :=
 kv2 args fun n_1 i_2 =>
 ob (S 191 [n_1, i_2] h) fun r3 => kres r3 (fun v4 h5 =>
 ob (aextract v4 0) fun v8 =>
 ob (aextract v4 1) fun v9 =>
 ob (kif v9
  (ob (knil n_1) fun v11 =>
  ob (kfa 1 v11) fun v12 =>
  ob (kload h5 v12) fun v13 =>
  ob (kbinI .add v13 (.int .i64 (.ofNat 1))) fun v14 =>
  ob (knil n_1) fun v15 =>
  ob (kfa 1 v15) fun v16 =>
  ob (kstore 1 v16 v14 h5) fun h17 =>
  (some ⟨0, [v9], [], h17⟩))
  ((some ⟨0, [v9], [], h5⟩))) fun r10 => kcase (J.i r10) [kv1 (J.vs r10) fun is_18 =>
  (dleave (fun h19 => (some (false, is_18, h19))) (J.ds r10) (J.h r10))]) (fun p6 h7 => (some (true, p6, h7)))
theorem F134_ok {S : FS} {D : FD} (hS : SpecsOK Tryz.prog S) (hD : DynOK Tryz.prog D) : SpecOK Tryz.prog 134 (F134 S D) :=
  SpecOK.of (c := match Tryz.f134.body with | some c => c | none => .skip) (by kernel_rfl) hS hD ⟨Tryz.func134, rfl, by decide⟩
    (.seq .n (.seq .n (.seq (.seq .n (.join [(.norm, [6])] (.dup .n .n))) (.seq .n .n)))) 2 (fun args h => by kernel_rfl)
/-- (*roundhouse/net.Net).Twice -/
noncomputable def F135 (S : FS) (D : FD) (args : List AV) (h : Heap) : Option (Bool × AV × Heap) :=
 kv2 args fun n_1 i_2 =>
 ob (S 195 [n_1, i_2] h) fun r3 => kres r3 (fun v4 h5 =>
 ob (kbinI .lss v4 (.int .i64 (.ofNat 0))) fun v8 =>
 ob (kgv false v8 (some n_1)) fun v9 =>
 ob (kgv false v8 (knil v9)) fun v10 =>
 ob (kgv false v8 (kfa 2 v10)) fun v11 =>
 ob (kgv false v8 (kload h5 v11)) fun v12 =>
 ob (kgv false v8 (klenL v12)) fun v13 =>
 ob (kgv false v8 (some n_1)) fun v14 =>
 ob (kgv false v8 (knil v14)) fun v15 =>
 ob (kgv false v8 (kfa 0 v15)) fun v16 =>
 ob (kgv false v8 (kload h5 v16)) fun v17 =>
 ob (kgv false v8 (kbinI .geq v13 v17)) fun v18 =>
 ob (kpick v8 (.bool true) v18) fun v19 =>
 kif v19
  ((some (false, (.bool false), h5)))
  (ob (knil n_1) fun v20 =>
  ob (kfa 2 v20) fun v21 =>
  ob (kload h5 v21) fun v22 =>
  ob (kia 1 v22 v4) fun v23 =>
  ob (kload h5 v23) fun v24 =>
  ob (abuildSlice Tryz.prog 187 1 [(0, v24)]) fun r25 => Heap.pushK h5 (.cells r25.1 true r25.2.2) fun h26 =>
  ob (S 131 [n_1, (.slice (Heap.next h5) 0 1 1 r25.2.1)] h26) fun r27 => kres r27 (fun v28 h29 =>
  (some (false, (.bool true), h29))) (fun p30 h31 => (some (true, p30, h31))))) (fun p6 h7 => (some (true, p6, h7)))
theorem F135_ok {S : FS} {D : FD} (hS : SpecsOK Tryz.prog S) (hD : DynOK Tryz.prog D) : SpecOK Tryz.prog 135 (F135 S D) :=
  SpecOK.of (c := match Tryz.f135.body with | some c => c | none => .skip) (by kernel_rfl) hS hD ⟨Tryz.func135, rfl, by decide⟩
    (.seq .n (.seq .n (.seq (.seq .n (.dup (.seq .n .n) .n)) (.seq .n (.seq .n .n))))) 2 (fun args h => by kernel_rfl)
/-- (*roundhouse/world.World).exit -/
noncomputable def F136 (S : FS) (D : FD) (args : List AV) (h : Heap) : Option (Bool × AV × Heap) :=
 kv4 args fun w_1 o_2 code_3 tear_4 =>
 knt o_2 (Heap.pushK h (.cells (AV.cells o_2) true 69) fun h5 =>
 ob (kfa 1 (.ptr (Heap.next h) 0)) fun v6 =>
 ob (kload h5 v6) fun v7 =>
 ob (S 138 [w_1, v7] h5) fun r8 => kres r8 (fun v9 h10 =>
 ob (S 10 [v9] h10) fun r13 => kres r13 (fun v14 h15 =>
 ob (S 196 [v14, (.func 197 [])] h15) fun r18 => kres r18 (fun v19 h20 =>
 ob (klenL v19) fun v23 =>
 ob (kbinI .eql v23 (.int .i64 (.ofNat 0))) fun v24 =>
 ob (kgv false v24 (some v9)) fun v25 =>
 ob (kgc false v24 h20 (S 14 [v25] h20)) fun r26 => kres r26 (fun v27 h28 =>
 ob (kpick v24 (.bool true) v27) fun v31 =>
 kif v31
  ((some (false, (.bool false), h28)))
  (ob (knil w_1) fun v32 =>
  ob (kfa 2 v32) fun v33 =>
  ob (kload h28 v33) fun v34 =>
  ob (kfa 2 (.ptr (Heap.next h) 0)) fun v35 =>
  ob (kload h28 v35) fun v36 =>
  ob (klenL v19) fun v37 =>
  ob (S 137 [v36, v37] h28) fun r38 => kres r38 (fun v39 h40 =>
  kre (kload h40 v33) v34 (ob (kia 8 v19 v39) fun v43 =>
  ob (kfa 0 v43) fun v44 =>
  ob (kload h40 v44) fun v45 =>
  ob (S 198 [v9, v45, code_3, tear_4] h40) fun r46 => kres r46 (fun v47 h48 =>
  kre (kload h48 v33) v34 (ob (S 131 [v34, v47] h48) fun r51 => kres r51 (fun v52 h53 =>
  (some (false, (.bool true), h53))) (fun p54 h55 => (some (true, p54, h55))))) (fun p49 h50 => none))) (fun p41 h42 => none))) (fun p29 h30 => (some (true, p29, h30)))) (fun p21 h22 => (some (true, p21, h22)))) (fun p16 h17 => (some (true, p16, h17)))) (fun p11 h12 => (some (true, p11, h12))))
theorem F136_ok {S : FS} {D : FD} (hS : SpecsOK Tryz.prog S) (hD : DynOK Tryz.prog D) : SpecOK Tryz.prog 136 (F136 S D) :=
  SpecOK.of (c := match Tryz.f136.body with | some c => c | none => .skip) (by kernel_rfl) hS hD ⟨Tryz.func136, rfl, by decide⟩
    (.seq .n (.seq .n (.seq .n (.seq (.seq .n (.dup (.seq .n .n) .n)) (.seq .n (.seq .n .n)))))) 4 (fun args h => by kernel_rfl)
/-- roundhouse/world.place -/
noncomputable def F137 (S : FS) (D : FD) (args : List AV) (h : Heap) : Option (Bool × AV × Heap) :=
 kv2 args fun i_1 n_2 =>
 ob (kbinI .rem i_1 n_2) fun v3 =>
 ob (kbinI .add v3 n_2) fun v4 =>
 ob (kbinI .rem v4 n_2) fun v5 =>
 (some (false, v5, h))
theorem F137_ok {S : FS} {D : FD} (hS : SpecsOK Tryz.prog S) (hD : DynOK Tryz.prog D) : SpecOK Tryz.prog 137 (F137 S D) :=
  SpecOK.of (c := match Tryz.f137.body with | some c => c | none => .skip) (by kernel_rfl) hS hD ⟨Tryz.func137, rfl, by decide⟩
    (.seq .n (.seq .n .n)) 2 (fun args h => by kernel_rfl)
/-- (*roundhouse/world.World).node -/
noncomputable def F138 (S : FS) (D : FD) (args : List AV) (h : Heap) : Option (Bool × AV × Heap) :=
 kv2 args fun w_1 i_2 =>
 ob (knil w_1) fun v3 =>
 ob (kfa 0 v3) fun v4 =>
 ob (kload h v4) fun v5 =>
 ob (knil w_1) fun v6 =>
 ob (kfa 0 v6) fun v7 =>
 ob (kload h v7) fun v8 =>
 ob (klenL v8) fun v9 =>
 ob (S 137 [i_2, v9] h) fun r10 => kres r10 (fun v11 h12 =>
 kre (kload h12 v4) v5 (ob (kia 1 v5 v11) fun v15 =>
 ob (kload h12 v15) fun v16 =>
 (some (false, v16, h12)))) (fun p13 h14 => none)
theorem F138_ok {S : FS} {D : FD} (hS : SpecsOK Tryz.prog S) (hD : DynOK Tryz.prog D) : SpecOK Tryz.prog 138 (F138 S D) :=
  SpecOK.of (c := match Tryz.f138.body with | some c => c | none => .skip) (by kernel_rfl) hS hD ⟨Tryz.func138, rfl, by decide⟩
    (.seq .n (.seq .n .n)) 2 (fun args h => by kernel_rfl)
/-- (*roundhouse/agent.Agent).Crash -/
noncomputable def F139 (S : FS) (D : FD) (args : List AV) (h : Heap) : Option (Bool × AV × Heap) :=
 kv1 args fun a_1 =>
 ob (kbinO Tryz.prog .neq 34 true a_1 AV.nilptr) fun v2 =>
 ob (kif v2
  (ob (knil a_1) fun v4 =>
  ob (kfa 11 v4) fun v5 =>
  ob (kstore 1 v5 (.bool true) h) fun h6 =>
  ob (S 82 [a_1] h6) fun r7 => kres r7 (fun v8 h9 =>
  (some ⟨0, [], [], h9⟩)) (fun p10 h11 => (some ⟨1, [p10], [], h11⟩)))
  ((some ⟨0, [], [], h⟩))) fun r3 => kcase (J.i r3) [kv0 (J.vs r3) ((dleave (fun h12 => (some (false, (.tuple []), h12))) (J.ds r3) (J.h r3))),
 kv1 (J.vs r3) fun p13 => (kds (J.ds r3) (some (true, p13, (J.h r3))))]
theorem F139_ok {S : FS} {D : FD} (hS : SpecsOK Tryz.prog S) (hD : DynOK Tryz.prog D) : SpecOK Tryz.prog 139 (F139 S D) :=
  SpecOK.of (c := match Tryz.f139.body with | some c => c | none => .skip) (by kernel_rfl) hS hD ⟨Tryz.func139, rfl, by decide⟩
    (.seq .n (.join [(.norm, []), (.pan, [])] (.dup (.seq .n .n) .n))) 1 (fun args h => by kernel_rfl)
/-- (*roundhouse/ctl.Ctl).Cancel -/
noncomputable def F141 (S : FS) (D : FD) (args : List AV) (h : Heap) : Option (Bool × AV × Heap) :=
 kv2 args fun c_1 id_2 =>
 ob (S 39 [c_1, id_2] h) fun r3 => kres r3 (fun v4 h5 =>
 ob (kbinO Tryz.prog .eql 113 true v4 AV.nilptr) fun v8 =>
 kif v8
  ((some (false, (.int .i64 (.ofNat 1)), h5)))
  (ob (knil v4) fun v9 =>
  ob (kfa 4 v9) fun v10 =>
  ob (kload h5 v10) fun v11 =>
  ob (kbinI .geq v11 (.int .i64 (.ofNat 2))) fun v12 =>
  kif v12
   ((some (false, (.int .i64 (.ofNat 14)), h5)))
   (ob (knil v4) fun v13 =>
   ob (kfa 11 v13) fun v14 =>
   ob (kstore 1 v14 (.bool true) h5) fun h15 =>
   ob (knil v4) fun v16 =>
   ob (kfa 4 v16) fun v17 =>
   ob (kload h15 v17) fun v18 =>
   ob (kbinI .eql v18 (.int .i64 (.ofNat 1))) fun v19 =>
   ob (kif v19
    (ob (S 204 [v4] h15) fun r21 => kres r21 (fun v22 h23 =>
    (some ⟨0, [], [], h23⟩)) (fun p24 h25 => (some ⟨1, [p24], [], h25⟩)))
    ((some ⟨0, [], [], h15⟩))) fun r20 => kcase (J.i r20) [kv0 (J.vs r20) ((dleave (fun h26 => (some (false, (.int .i64 (.ofNat 0)), h26))) (J.ds r20) (J.h r20))),
   kv1 (J.vs r20) fun p27 => (kds (J.ds r20) (some (true, p27, (J.h r20))))]))) (fun p6 h7 => (some (true, p6, h7)))
theorem F141_ok {S : FS} {D : FD} (hS : SpecsOK Tryz.prog S) (hD : DynOK Tryz.prog D) : SpecOK Tryz.prog 141 (F141 S D) :=
  SpecOK.of (c := match Tryz.f141.body with | some c => c | none => .skip) (by kernel_rfl) hS hD ⟨Tryz.func141, rfl, by decide⟩
    (.seq .n (.seq .n (.seq (.one (.seq .n (.dup (.seq .n .n) (.seq .n (.dup (.seq .n .n) .n))))) (.seq .n (.seq (.seq .n (.join [(.norm, []), (.pan, [])] (.dup .n .n))) (.seq .n .n)))))) 2 (fun args h => by kernel_rfl)
/-- slices.order2CmpFunc[roundhouse/audit.Owner] -/
noncomputable def F143 (S : FS) (D : FD) (args : List AV) (h : Heap) : Option (Bool × AV × Heap) :=
 kv5 args fun data_1 a_2 b_3 swaps_4 cmp_5 =>
 ob (kia 6 data_1 b_3) fun v6 =>
 ob (kloadN 6 h v6) fun v7 =>
 ob (kia 6 data_1 a_2) fun v8 =>
 ob (kloadN 6 h v8) fun v9 =>
 ob (D cmp_5 [v7, v9] h) fun r10 => kres r10 (fun v11 h12 =>
 ob (kbinI .lss v11 (.int .i64 (.ofNat 0))) fun v15 =>
 kif v15
  (ob (knil swaps_4) fun v16 =>
  ob (kload h12 v16) fun v17 =>
  ob (kbinI .add v17 (.int .i64 (.ofNat 1))) fun v18 =>
  ob (knil swaps_4) fun v19 =>
  ob (kstore 1 v19 v18 h12) fun h20 =>
  (some (false, (.tuple [b_3, a_2]), h20)))
  ((some (false, (.tuple [a_2, b_3]), h12)))) (fun p13 h14 => (some (true, p13, h14)))
theorem F143_ok {S : FS} {D : FD} (hS : SpecsOK Tryz.prog S) (hD : DynOK Tryz.prog D) : SpecOK Tryz.prog 143 (F143 S D) :=
  SpecOK.of (c := match Tryz.f143.body with | some c => c | none => .skip) (by kernel_rfl) hS hD ⟨Tryz.func143, rfl, by decide⟩
    (.seq .n (.seq (.seq .n (.dup (.seq .n (.seq .n .n)) .n)) (.seq .n .n))) 5 (fun args h => by kernel_rfl)
/-- roundhouse/mask.All -/
noncomputable def F144 (S : FS) (D : FD) (args : List AV) (h : Heap) : Option (Bool × AV × Heap) :=
 kv1 args fun n_1 =>
 Heap.pushK h (.cells [(.int .u64 (.ofNat 0)), (.int .u64 (.ofNat 0)), (.int .u64 (.ofNat 0)), (.int .u64 (.ofNat 0))] true 98) fun h2 =>
 Heap.pushK h2 (.cells [(.int .u64 (.ofNat 0)), (.int .u64 (.ofNat 0)), (.int .u64 (.ofNat 0)), (.int .u64 (.ofNat 0))] true 98) fun h3 =>
 ob (kbinI .lss n_1 (.int .i64 (.ofNat 0))) fun v4 =>
 ob (kgv false v4 (some n_1)) fun v5 =>
 ob (kgv false v4 (kbinI .gtr v5 (.int .i64 (.ofNat 256)))) fun v6 =>
 ob (kpick v4 (.bool true) v6) fun v7 =>
 kif v7
  (ob (kloadN 4 h3 (.ptr (Heap.next h2) 0)) fun v8 =>
  ob (kstore 4 (.ptr (Heap.next h) 0) v8 h3) fun h9 =>
  ob (kloadN 4 h9 (.ptr (Heap.next h) 0)) fun v10 => (some (false, (.tuple [v10, (.int .i64 (.ofNat 1))]), h9)))
  (ob (iterD (fun vs11 ds12 h13 => kv4 vs11 fun v14 m_15 v16 v17 =>
   ob (kbinI .lss v17 v16) fun v18 =>
   kif v18
    (ob (kloadN 4 h13 m_15) fun v19 =>
    ob (S 205 [v19, v17] h13) fun r20 => kres r20 (fun v21 h22 =>
    ob (kstore 4 m_15 v21 h22) fun h25 =>
    ob (kbinI .add v17 (.int .i64 (.ofNat 1))) fun v26 =>
    (some ⟨0, [v14, m_15, v16, v26], ds12, h25⟩)) (fun p23 h24 => (some ⟨2, [p23], ds12, h24⟩)))
    ((some ⟨1, [v14, m_15], ds12, h13⟩))) rounds [(.ptr (Heap.next h) 0), (.ptr (Heap.next h2) 0), n_1, (.int .i64 (.ofNat 0))] [] h3) fun r27 => kcase (J.i r27) [kv2 (J.vs r27) fun v28 m_29 =>
   ob (kloadN 4 (J.h r27) m_29) fun v30 =>
   ob (kstore 4 v28 v30 (J.h r27)) fun h31 =>
   (dleave (fun h32 => ob (kloadN 4 h32 v28) fun v33 => (some (false, (.tuple [v33, (.int .i64 (.ofNat 0))]), h32))) (J.ds r27) h31),
  kv1 (J.vs r27) fun p34 => (kds (J.ds r27) (some (true, p34, (J.h r27))))])
theorem F144_ok {S : FS} {D : FD} (hS : SpecsOK Tryz.prog S) (hD : DynOK Tryz.prog D) : SpecOK Tryz.prog 144 (F144 S D) :=
  SpecOK.of (c := match Tryz.f144.body with | some c => c | none => .skip) (by kernel_rfl) hS hD ⟨Tryz.func144, rfl, by decide⟩
    (.seq .n (.seq .n (.seq (.seq .n (.dup (.seq .n .n) .n)) (.seq (.seq .n (.one (.loop [2, 4, 13, 14] [(.exit 0, [2, 4]), (.pan, [])] (.seq .n (.seq (.dup .n .n) (.seq (.one (.seq .n .n)) .n)))))) (.seq .n .n))))) 1 (fun args h => by kernel_rfl)
/-- (roundhouse/cores.Layout).count -/
noncomputable def F145 (S : FS) (D : FD) (args : List AV) (h : Heap) : Option (Bool × AV × Heap) :=
 kv1 args fun l_1 =>
 knt l_1 (Heap.pushK h (.cells (AV.cells l_1) true 57) fun h2 =>
 ob (kloadN 2 h2 (.ptr (Heap.next h) 0)) fun v3 =>
 ob (S 124 [v3] h2) fun r4 => kres r4 (fun v5 h6 =>
 ob (aun .not v5) fun v9 =>
 kif v9
  ((some (false, (.int .i64 (.ofNat 0)), h6)))
  (ob (kfa 0 (.ptr (Heap.next h) 0)) fun v10 =>
  ob (kload h6 v10) fun v11 =>
  ob (kfa 1 (.ptr (Heap.next h) 0)) fun v12 =>
  ob (kload h6 v12) fun v13 =>
  ob (kbinI .mul v11 v13) fun v14 =>
  (some (false, v14, h6)))) (fun p7 h8 => (some (true, p7, h8))))
theorem F145_ok {S : FS} {D : FD} (hS : SpecsOK Tryz.prog S) (hD : DynOK Tryz.prog D) : SpecOK Tryz.prog 145 (F145 S D) :=
  SpecOK.of (c := match Tryz.f145.body with | some c => c | none => .skip) (by kernel_rfl) hS hD ⟨Tryz.func145, rfl, by decide⟩
    (.seq .n (.seq (.seq .n (.dup (.seq .n .n) .n)) (.seq .n .n))) 1 (fun args h => by kernel_rfl)
/-- (roundhouse/mask.Mask).each -/
noncomputable def F146 (S : FS) (D : FD) (args : List AV) (h : Heap) : Option (Bool × AV × Heap) :=
 kv3 args fun m_1 o_2 do_3 =>
 knt m_1 (Heap.pushK h (.cells (AV.cells m_1) true 98) fun h4 =>
 knt o_2 (Heap.pushK h4 (.cells (AV.cells o_2) true 98) fun h5 =>
 Heap.pushK h5 (.cells [(.int .u64 (.ofNat 0)), (.int .u64 (.ofNat 0)), (.int .u64 (.ofNat 0)), (.int .u64 (.ofNat 0))] true 98) fun h6 =>
 ob (iterD (fun vs7 ds8 h9 => kv5 vs7 fun do_10 m_11 o_12 v13 v14 =>
  ob (kbinI .lss v14 (.int .i64 (.ofNat 4))) fun v15 =>
  kif v15
   (ob (kiaA 4 1 m_11 v14) fun v16 =>
   ob (kload h9 v16) fun v17 =>
   ob (kiaA 4 1 o_12 v14) fun v18 =>
   ob (kload h9 v18) fun v19 =>
   ob (D do_10 [v17, v19] h9) fun r20 => kres r20 (fun v21 h22 =>
   ob (kiaA 4 1 m_11 v14) fun v25 =>
   ob (kstore 1 v25 v21 h22) fun h26 =>
   ob (kbinI .add v14 (.int .i64 (.ofNat 1))) fun v27 =>
   (some ⟨0, [do_10, m_11, o_12, v13, v27], ds8, h26⟩)) (fun p23 h24 => none))
   ((some ⟨1, [m_11, v13], ds8, h9⟩))) rounds [do_3, (.ptr (Heap.next h) 0), (.ptr (Heap.next h4) 0), (.ptr (Heap.next h5) 0), (.int .i64 (.ofNat 0))] [] h6) fun r28 => kcase (J.i r28) [kv2 (J.vs r28) fun m_29 v30 =>
  ob (kloadN 4 (J.h r28) m_29) fun v31 =>
  ob (kstore 4 v30 v31 (J.h r28)) fun h32 =>
  (dleave (fun h33 => ob (kloadN 4 h33 v30) fun v34 => (some (false, v34, h33))) (J.ds r28) h32),
 kv1 (J.vs r28) fun p35 => (kds (J.ds r28) (some (true, p35, (J.h r28))))]))
theorem F146_ok {S : FS} {D : FD} (hS : SpecsOK Tryz.prog S) (hD : DynOK Tryz.prog D) : SpecOK Tryz.prog 146 (F146 S D) :=
  SpecOK.of (c := match Tryz.f146.body with | some c => c | none => .skip) (by kernel_rfl) hS hD ⟨Tryz.func146, rfl, by decide⟩
    (.seq .n (.seq (.seq .n (.one (.loop [2, 3, 4, 6, 8] [(.exit 0, [3, 6]), (.pan, [])] (.seq .n (.seq (.dup .n .n) (.seq (.one (.seq .n .n)) .n)))))) (.seq .n .n))) 3 (fun args h => by kernel_rfl)
/-- (roundhouse/mask.Mask).Minus$1 -/
noncomputable def F147 (S : FS) (D : FD) (args : List AV) (h : Heap) : Option (Bool × AV × Heap) :=
 kv2 args fun a_1 b_2 =>
 ob (kbinI .andNot a_1 b_2) fun v3 =>
 (some (false, v3, h))
theorem F147_ok {S : FS} {D : FD} (hS : SpecsOK Tryz.prog S) (hD : DynOK Tryz.prog D) : SpecOK Tryz.prog 147 (F147 S D) :=
  SpecOK.of (c := match Tryz.f147.body with | some c => c | none => .skip) (by kernel_rfl) hS hD ⟨Tryz.func147, rfl, by decide⟩
    (.seq .n (.seq .n .n)) 2 (fun args h => by kernel_rfl)
/-- roundhouse/journal.records$1 -/
noncomputable def F148 (S : FS) (D : FD) (args : List AV) (h : Heap) : Option (Bool × AV × Heap) :=
 kv2 args fun yield_1 v2 =>
 ob (iterD (fun vs3 ds4 h5 => kv3 vs3 fun yield_6 v7 at_8 =>
  ob (kload h5 v7) fun v9 =>
  ob (klenS v9) fun v10 =>
  ob (kbinI .lss at_8 v10) fun v11 =>
  kif v11
   (ob (kload h5 v7) fun v12 =>
   ob (aslice Tryz.prog 9 v12 (some at_8) none none) fun v13 =>
   ob (S 149 [v13] h5) fun r14 => kres r14 (fun v15 h16 =>
   ob (aextract v15 0) fun v19 =>
   ob (aextract v15 1) fun v20 =>
   Heap.pushK h16 (.cells [(.int .i64 (.ofNat 0)), (.str 0 0)] true 165) fun h21 =>
   ob (kstore 2 (.ptr (Heap.next h16) 0) v19 h21) fun h22 =>
   ob (kbinI .eql v20 (.int .i64 (.ofNat 0))) fun v23 =>
   kif v23
    ((some ⟨1, [], ds4, h22⟩))
    (ob (kbinI .add at_8 v20) fun v24 =>
    ob (kloadN 2 h22 (.ptr (Heap.next h16) 0)) fun v25 =>
    ob (D yield_6 [v25, v24] h22) fun r26 => kres r26 (fun v27 h28 =>
    ob (aun .not v27) fun v31 =>
    kif v31
     ((some ⟨1, [], ds4, h28⟩))
     ((some ⟨0, [yield_6, v7, v24], ds4, h28⟩))) (fun p29 h30 => (some ⟨2, [p29], ds4, h30⟩)))) (fun p17 h18 => (some ⟨2, [p17], ds4, h18⟩)))
   ((some ⟨1, [], ds4, h5⟩))) rounds [yield_1, v2, (.int .i64 (.ofNat 0))] [] h) fun r32 => kcase (J.i r32) [kv0 (J.vs r32) ((dleave (fun h33 => (some (false, (.tuple []), h33))) (J.ds r32) (J.h r32))),
 kv1 (J.vs r32) fun p34 => (kds (J.ds r32) (some (true, p34, (J.h r32))))]
theorem F148_ok {S : FS} {D : FD} (hS : SpecsOK Tryz.prog S) (hD : DynOK Tryz.prog D) : SpecOK Tryz.prog 148 (F148 S D) :=
  SpecOK.of (c := match Tryz.f148.body with | some c => c | none => .skip) (by kernel_rfl) hS hD ⟨Tryz.func148, rfl, by decide⟩
    (.one (.seq .n (.seq .n (.one (.loop [0, 1, 3] [(.exit 0, []), (.pan, [])] (.seq (.seq .n (.dup .n .n)) (.one (.seq .n (.seq (.seq .n (.dup .n .n)) (.seq .n (.seq .n (.dup .n .n)))))))))))) 2 (fun args h => by kernel_rfl)
/-- roundhouse/journal.first -/
noncomputable def F149 (S : FS) (D : FD) (args : List AV) (h : Heap) : Option (Bool × AV × Heap) :=
 kv1 args fun s_1 =>
 Heap.pushK h (.cells [(.int .i64 (.ofNat 0)), (.str 0 0)] true 165) fun h2 =>
 ob (klenS s_1) fun v3 =>
 ob (kbinI .lss v3 (.int .i64 (.ofNat 2))) fun v4 =>
 ob (kgv false v4 (some s_1)) fun v5 =>
 ob (kgv false v4 (kixS v5 (.int .i64 (.ofNat 0)))) fun v6 =>
 ob (kgv false v4 (kbinI .neq v6 (.int .u8 (.ofNat 74)))) fun v7 =>
 ob (kpick v4 (.bool true) v7) fun v8 =>
 ob (kgv false v8 (some s_1)) fun v9 =>
 ob (kgv false v8 (kixS v9 (.int .i64 (.ofNat 1)))) fun v10 =>
 ob (kgv false v8 (kconvI .i64 v10)) fun v11 =>
 ob (kgc false v8 h2 (S 206 [v11] h2)) fun r12 => kres r12 (fun v13 h14 =>
 ob (kgv false v8 (aun .not v13)) fun v17 =>
 ob (kpick v8 (.bool true) v17) fun v18 =>
 kif v18
  (ob (abuild Tryz.prog 165 []) fun v19 =>
  ob (kstore 2 (.ptr (Heap.next h) 0) v19 h14) fun h20 =>
  ob (kloadN 2 h20 (.ptr (Heap.next h) 0)) fun v21 => (some (false, (.tuple [v21, (.int .i64 (.ofNat 0))]), h20)))
  (ob (aslice Tryz.prog 9 s_1 (some (.int .i64 (.ofNat 2))) none none) fun v22 =>
  ob (S 106 [v22] h14) fun r23 => kres r23 (fun v24 h25 =>
  ob (kixS s_1 (.int .i64 (.ofNat 1))) fun v28 =>
  ob (kconvI .i64 v28) fun v29 =>
  kfree h25 (Heap.pushK h25 (.cells [(.int .i64 (.ofNat 0)), (.str 0 0)] true 165) fun h30 =>
  ob (S 207 [v24] h30) fun r31 => kres r31 (fun v32 h33 =>
  kro (Heap.next h25) h30 h33 (ob (abuild Tryz.prog 165 [(0, v29), (1, v32)]) fun v36 =>
  ob (kstore 2 (.ptr (Heap.next h25) 0) v36 h33) fun h37 =>
  ob (S 109 [v24] h37) fun r38 => kres r38 (fun v39 h40 =>
  ob (aextract v39 0) fun v43 =>
  ob (aextract v39 1) fun v44 =>
  ob (kbinI .neq v43 (.int .i64 (.ofNat 0))) fun v45 =>
  ob (kgv true v45 (some v43)) fun v46 =>
  ob (kgv true v45 (kbinI .neq v46 (.int .i64 (.ofNat 4)))) fun v47 =>
  ob (kpick v45 v47 (.bool false)) fun v48 =>
  kif v48
   (ob (abuild Tryz.prog 165 []) fun v49 =>
   ob (kstore 2 (.ptr (Heap.next h) 0) v49 h40) fun h50 =>
   ob (kloadN 2 h50 (.ptr (Heap.next h) 0)) fun v51 => (some (false, (.tuple [v51, (.int .i64 (.ofNat 0))]), h50)))
   (ob (kfa 0 (.ptr (Heap.next h25) 0)) fun v52 =>
   ob (kload h40 v52) fun v53 =>
   ob (kfa 1 (.ptr (Heap.next h25) 0)) fun v54 =>
   ob (kload h40 v54) fun v55 =>
   ob (S 208 [v53, v55] h40) fun r56 => kres r56 (fun v57 h58 =>
   ob (klenS s_1) fun v61 =>
   ob (klenS v57) fun v62 =>
   ob (kbinI .lss v61 v62) fun v63 =>
   ob (kgv false v63 (some s_1)) fun v64 =>
   ob (kgv false v63 (some v57)) fun v65 =>
   ob (kgv false v63 (klenS v65)) fun v66 =>
   ob (kgv false v63 (aslice Tryz.prog 9 v64 none (some v66) none)) fun v67 =>
   ob (kgv false v63 (some v57)) fun v68 =>
   ob (kgv false v63 (kbinS .neq v67 v68)) fun v69 =>
   ob (kpick v63 (.bool true) v69) fun v70 =>
   kif v70
    (ob (abuild Tryz.prog 165 []) fun v71 =>
    ob (kstore 2 (.ptr (Heap.next h) 0) v71 h58) fun h72 =>
    ob (kloadN 2 h72 (.ptr (Heap.next h) 0)) fun v73 => (some (false, (.tuple [v73, (.int .i64 (.ofNat 0))]), h72)))
    (ob (kloadN 2 h58 (.ptr (Heap.next h25) 0)) fun v74 =>
    ob (klenS v57) fun v75 =>
    ob (kstore 2 (.ptr (Heap.next h) 0) v74 h58) fun h76 =>
    ob (kloadN 2 h76 (.ptr (Heap.next h) 0)) fun v77 => (some (false, (.tuple [v77, v75]), h76)))) (fun p59 h60 => (some (true, p59, h60))))) (fun p41 h42 => (some (true, p41, h42))))) (fun p34 h35 => none))) (fun p26 h27 => (some (true, p26, h27))))) (fun p15 h16 => (some (true, p15, h16)))
theorem F149_ok {S : FS} {D : FD} (hS : SpecsOK Tryz.prog S) (hD : DynOK Tryz.prog D) : SpecOK Tryz.prog 149 (F149 S D) :=
  SpecOK.of (c := match Tryz.f149.body with | some c => c | none => .skip) (by kernel_rfl) hS hD ⟨Tryz.func149, rfl, by decide⟩
    (.seq .n (.seq (.seq .n (.dup (.seq .n .n) .n)) (.seq .n (.seq .n (.seq (.seq .n (.seq .n (.dup (.seq .n .n) .n))) (.seq .n (.seq (.seq .n (.dup (.seq .n .n) .n)) (.seq .n .n)))))))) 1 (fun args h => by kernel_rfl)
/-- (*roundhouse/wire.Reader).Num$1 -/
noncomputable def F151 (S : FS) (D : FD) (args : List AV) (h : Heap) : Option (Bool × AV × Heap) :=
 kv2 args fun v1 v2 =>
 ob (kload h v1) fun v3 =>
 ob (S 152 [v3] h) fun r4 => kres r4 (fun v5 h6 =>
 ob (kstore 1 v2 v5 h6) fun h9 =>
 (some (false, (.tuple []), h9))) (fun p7 h8 => (some (true, p7, h8)))
theorem F151_ok {S : FS} {D : FD} (hS : SpecsOK Tryz.prog S) (hD : DynOK Tryz.prog D) : SpecOK Tryz.prog 151 (F151 S D) :=
  SpecOK.of (c := match Tryz.f151.body with | some c => c | none => .skip) (by kernel_rfl) hS hD ⟨Tryz.func151, rfl, by decide⟩
    .n 2 (fun args h => by kernel_rfl)
/-- (*roundhouse/wire.Reader).num -/
noncomputable def F152 (S : FS) (D : FD) (args : List AV) (h : Heap) : Option (Bool × AV × Heap) :=
 kv1 args fun r_1 =>
 ob (knil r_1) fun v2 =>
 ob (kfa 1 v2) fun v3 =>
 ob (kload h v3) fun v4 =>
 ob (S 210 [r_1, (.int .i64 (.ofNat 1)), v4] h) fun r5 => kres r5 (fun v6 h7 =>
 ob (kixS v6 (.int .i64 (.ofNat 0))) fun v10 =>
 ob (kconvI .i64 v10) fun v11 =>
 ob (kbinI .leq v11 (.int .i64 (.ofNat 6))) fun v12 =>
 ob (S 211 [v12, v4, (.int .i64 (.ofNat 3))] h7) fun r13 => kres r13 (fun v14 h15 =>
 ob (S 210 [r_1, v11, v4] h15) fun r18 => kres r18 (fun v19 h20 =>
 ob (klenS v19) fun v23 =>
 ob (iterD (fun vs24 ds25 h26 => kv6 vs24 fun from_27 size_28 s_29 n_30 v31 v32 =>
  ob (kbinI .lss v32 v31) fun v33 =>
  kif v33
   (ob (kbinI .shl n_30 (.int .u64 (.ofNat 8))) fun v34 =>
   ob (kixS s_29 v32) fun v35 =>
   ob (kconvI .i64 v35) fun v36 =>
   ob (kbinI .or v34 v36) fun v37 =>
   ob (kbinI .add v32 (.int .i64 (.ofNat 1))) fun v38 =>
   (some ⟨0, [from_27, size_28, s_29, v37, v31, v38], ds25, h26⟩))
   ((some ⟨1, [from_27, size_28, s_29, n_30], ds25, h26⟩))) rounds [v4, v11, v19, (.int .i64 (.ofNat 0)), v23, (.int .i64 (.ofNat 0))] [] h20) fun r39 => kcase (J.i r39) [kv4 (J.vs r39) fun from_40 size_41 s_42 n_43 =>
  ob (kbinI .eql size_41 (.int .i64 (.ofNat 0))) fun v44 =>
  ob (kgv false v44 (some s_42)) fun v45 =>
  ob (kgv false v44 (kixS v45 (.int .i64 (.ofNat 0)))) fun v46 =>
  ob (kgv false v44 (kbinI .neq v46 (.int .u8 (.ofNat 0)))) fun v47 =>
  ob (kgv false v44 (some v47)) fun v48 =>
  ob (kgv true v48 (some n_43)) fun v49 =>
  ob (kgc true v48 (J.h r39) (S 212 [v49] (J.h r39))) fun r50 => kres r50 (fun v51 h52 =>
  ob (kgv false v44 (kpick v48 v51 (.bool false))) fun v55 =>
  ob (kpick v44 (.bool true) v55) fun v56 =>
  ob (S 211 [v56, from_40, (.int .i64 (.ofNat 3))] h52) fun r57 => kres r57 (fun v58 h59 =>
  (dleave (fun h62 => (some (false, n_43, h62))) (J.ds r39) h59)) (fun p60 h61 => (kds (J.ds r39) (some (true, p60, h61))))) (fun p53 h54 => (kds (J.ds r39) (some (true, p53, h54))))]) (fun p21 h22 => (some (true, p21, h22)))) (fun p16 h17 => (some (true, p16, h17)))) (fun p8 h9 => (some (true, p8, h9)))
theorem F152_ok {S : FS} {D : FD} (hS : SpecsOK Tryz.prog S) (hD : DynOK Tryz.prog D) : SpecOK Tryz.prog 152 (F152 S D) :=
  SpecOK.of (c := match Tryz.f152.body with | some c => c | none => .skip) (by kernel_rfl) hS hD ⟨Tryz.func152, rfl, by decide⟩
    (.seq .n (.seq .n (.seq .n (.seq .n (.seq .n (.seq .n (.seq (.seq .n (.one (.loop [3, 4, 5, 6, 26, 27] [(.exit 0, [3, 4, 5, 6])] (.seq .n (.seq (.dup .n .n) (.seq (.one (.seq .n .n)) .n)))))) (.seq .n (.seq .n .n))))))))) 1 (fun args h => by kernel_rfl)
/-- (*roundhouse/wire.Reader).List$1 -/
noncomputable def F153 (S : FS) (D : FD) (args : List AV) (h : Heap) : Option (Bool × AV × Heap) :=
 kv4 args fun v1 v2 v3 v4 =>
 ob (kload h v1) fun v5 =>
 ob (kload h v2) fun v6 =>
 ob (S 154 [v5, v6] h) fun r7 => kres r7 (fun v8 h9 =>
 ob (iterD (fun vs12 ds13 h14 => kv5 vs12 fun v15 v16 v17 v18 v19 =>
  ob (kbinI .lss v19 v18) fun v20 =>
  kif v20
   (ob (kload h14 v16) fun v21 =>
   ob (kload h14 v15) fun v22 =>
   ob (S 152 [v22] h14) fun r23 => kres r23 (fun v24 h25 =>
   kre (kload h25 v16) v21 (kfree h25 (ob (abuildSlice Tryz.prog 37 1 [(0, v24)]) fun r28 => Heap.pushK h25 (.cells r28.1 true r28.2.2) fun h29 =>
   ob (aappend Tryz.prog h29 37 37 v21 (.slice (Heap.next h25) 0 1 1 r28.2.1)) fun r30 =>
   ob (kstore 1 v16 r30.1 r30.2) fun h31 =>
   ob (kbinI .add v19 (.int .i64 (.ofNat 1))) fun v32 =>
   (some ⟨0, [v15, v16, v17, v18, v32], ds13, h31⟩)))) (fun p26 h27 => none))
   ((some ⟨1, [v17], ds13, h14⟩))) rounds [v1, v3, v4, v8, (.int .i64 (.ofNat 0))] [] h9) fun r33 => kcase (J.i r33) [kv1 (J.vs r33) fun v34 =>
  ob (kstore 1 v34 (.bool true) (J.h r33)) fun h35 =>
  (dleave (fun h36 => (some (false, (.tuple []), h36))) (J.ds r33) h35),
 kv1 (J.vs r33) fun p37 => (kds (J.ds r33) (some (true, p37, (J.h r33))))]) (fun p10 h11 => (some (true, p10, h11)))
theorem F153_ok {S : FS} {D : FD} (hS : SpecsOK Tryz.prog S) (hD : DynOK Tryz.prog D) : SpecOK Tryz.prog 153 (F153 S D) :=
  SpecOK.of (c := match Tryz.f153.body with | some c => c | none => .skip) (by kernel_rfl) hS hD ⟨Tryz.func153, rfl, by decide⟩
    (.seq (.seq .n (.one (.loop [0, 2, 3, 6, 7] [(.exit 0, [3]), (.pan, [])] (.seq .n (.seq (.dup .n .n) (.seq (.one .n) .n)))))) .n) 4 (fun args h => by kernel_rfl)
/-- (*roundhouse/wire.Reader).count -/
noncomputable def F154 (S : FS) (D : FD) (args : List AV) (h : Heap) : Option (Bool × AV × Heap) :=
 kv2 args fun r_1 most_2 =>
 ob (knil r_1) fun v3 =>
 ob (kfa 1 v3) fun v4 =>
 ob (kload h v4) fun v5 =>
 ob (S 152 [r_1] h) fun r6 => kres r6 (fun v7 h8 =>
 ob (kbinI .leq v7 most_2) fun v11 =>
 ob (S 211 [v11, v5, (.int .i64 (.ofNat 3))] h8) fun r12 => kres r12 (fun v13 h14 =>
 (some (false, v7, h14))) (fun p15 h16 => (some (true, p15, h16)))) (fun p9 h10 => (some (true, p9, h10)))
theorem F154_ok {S : FS} {D : FD} (hS : SpecsOK Tryz.prog S) (hD : DynOK Tryz.prog D) : SpecOK Tryz.prog 154 (F154 S D) :=
  SpecOK.of (c := match Tryz.f154.body with | some c => c | none => .skip) (by kernel_rfl) hS hD ⟨Tryz.func154, rfl, by decide⟩
    (.seq .n (.seq .n (.seq .n (.seq .n (.seq .n .n))))) 2 (fun args h => by kernel_rfl)
/-- roundhouse/rec.in -/
noncomputable def F155 (S : FS) (D : FD) (args : List AV) (h : Heap) : Option (Bool × AV × Heap) :=
 kv3 args fun n_1 least_2 most_3 =>
 ob (kbinI .geq n_1 least_2) fun v4 =>
 ob (kgv true v4 (some n_1)) fun v5 =>
 ob (kgv true v4 (some most_3)) fun v6 =>
 ob (kgv true v4 (kbinI .leq v5 v6)) fun v7 =>
 ob (kpick v4 v7 (.bool false)) fun v8 =>
 (some (false, v8, h))
theorem F155_ok {S : FS} {D : FD} (hS : SpecsOK Tryz.prog S) (hD : DynOK Tryz.prog D) : SpecOK Tryz.prog 155 (F155 S D) :=
  SpecOK.of (c := match Tryz.f155.body with | some c => c | none => .skip) (by kernel_rfl) hS hD ⟨Tryz.func155, rfl, by decide⟩
    (.seq .n (.seq .n .n)) 3 (fun args h => by kernel_rfl)
/-- roundhouse/rec.pids -/
noncomputable def F156 (S : FS) (D : FD) (args : List AV) (h : Heap) : Option (Bool × AV × Heap) :=
 kv1 args fun l_1 =>
 ob (klenL l_1) fun v2 =>
 ob (iterD (fun vs3 ds4 h5 => kv5 vs3 fun l_6 last_7 v8 v9 v10 =>
  ob (kbinI .lss v10 v9) fun v11 =>
  kif v11
   (ob (kia 1 v8 v10) fun v12 =>
   ob (kload h5 v12) fun v13 =>
   ob (kbinI .leq v13 last_7) fun v14 =>
   ob (kgv false v14 (some v13)) fun v15 =>
   ob (kgv false v14 (kbinI .gtr v15 (.int .i64 (.ofNat 1099511627776)))) fun v16 =>
   ob (kpick v14 (.bool true) v16) fun v17 =>
   kif v17
    ((some ⟨2, [(.bool false)], ds4, h5⟩))
    (ob (kbinI .add v10 (.int .i64 (.ofNat 1))) fun v18 =>
    (some ⟨0, [l_6, v13, v8, v9, v18], ds4, h5⟩)))
   ((some ⟨1, [l_6], ds4, h5⟩))) rounds [l_1, (.int .i64 (.ofNat 0)), l_1, v2, (.int .i64 (.ofNat 0))] [] h) fun r19 => kcase (J.i r19) [kv1 (J.vs r19) fun l_20 =>
  ob (klenL l_20) fun v21 =>
  ob (S 155 [v21, (.int .i64 (.ofNat 1)), (.int .i64 (.ofNat 256))] (J.h r19)) fun r22 => kres r22 (fun v23 h24 =>
  (dleave (fun h27 => (some (false, v23, h27))) (J.ds r19) h24)) (fun p25 h26 => (kds (J.ds r19) (some (true, p25, h26)))),
 kv1 (J.vs r19) fun v28 =>
  (dleave (fun h29 => (some (false, v28, h29))) (J.ds r19) (J.h r19))]
theorem F156_ok {S : FS} {D : FD} (hS : SpecsOK Tryz.prog S) (hD : DynOK Tryz.prog D) : SpecOK Tryz.prog 156 (F156 S D) :=
  SpecOK.of (c := match Tryz.f156.body with | some c => c | none => .skip) (by kernel_rfl) hS hD ⟨Tryz.func156, rfl, by decide⟩
    (.seq .n (.seq .n (.seq (.seq .n (.one (.loop [0, 3, 6, 7, 8] [(.exit 0, [0]), (.ret, [2])] (.seq .n (.seq (.dup .n .n) (.seq (.one (.seq .n (.seq (.seq .n (.dup (.seq .n .n) .n)) .n))) .n)))))) (.seq .n .n)))) 1 (fun args h => by kernel_rfl)
/-- roundhouse/rec.copied -/
noncomputable def F157 (S : FS) (D : FD) (args : List AV) (h : Heap) : Option (Bool × AV × Heap) :=
 kv1 args fun s_1 =>
 knt s_1 (Heap.pushK h (.cells (AV.cells s_1) true 85) fun h2 =>
 Heap.pushK h2 (.cells [AV.nilslice, AV.nilslice, (.bool false)] true 85) fun h3 =>
 ob (kfa 0 (.ptr (Heap.next h) 0)) fun v4 =>
 ob (kload h3 v4) fun v5 =>
 ob (kfa 1 (.ptr (Heap.next h) 0)) fun v6 =>
 ob (kload h3 v6) fun v7 =>
 ob (kfa 2 (.ptr (Heap.next h) 0)) fun v8 =>
 ob (kload h3 v8) fun v9 =>
 ob (S 66 [v5] h3) fun r10 => kres r10 (fun v11 h12 =>
 kre (kload h12 v8) v9 (kre (kload h12 v6) v7 (ob (S 67 [v7] h12) fun r15 => kres r15 (fun v16 h17 =>
 kre (kload h17 v8) v9 (ob (abuild Tryz.prog 85 [(0, v11), (1, v16), (2, v9)]) fun v20 =>
 ob (kstore 3 (.ptr (Heap.next h2) 0) v20 h17) fun h21 =>
 ob (kloadN 3 h21 (.ptr (Heap.next h2) 0)) fun v22 => (some (false, v22, h21)))) (fun p18 h19 => none)))) (fun p13 h14 => none))
theorem F157_ok {S : FS} {D : FD} (hS : SpecsOK Tryz.prog S) (hD : DynOK Tryz.prog D) : SpecOK Tryz.prog 157 (F157 S D) :=
  SpecOK.of (c := match Tryz.f157.body with | some c => c | none => .skip) (by kernel_rfl) hS hD ⟨Tryz.func157, rfl, by decide⟩
    (.seq .n (.seq .n .n)) 1 (fun args h => by kernel_rfl)
/-- roundhouse/rec.changes -/
noncomputable def F158 (S : FS) (D : FD) (args : List AV) (h : Heap) : Option (Bool × AV × Heap) :=
 kv0 args (Heap.pushK h (.map [] [] 0) fun h1 =>
 ob (abuild Tryz.prog 261 [(0, (.func 213 []))]) fun v2 =>
 ob (amapSet Tryz.prog h1 262 (.map (Heap.next h)) (.int .i64 (.ofNat 0)) v2) fun h3 =>
 ob (S 214 [(.int .i64 (.ofNat 0))] h3) fun r4 => kres r4 (fun v5 h6 =>
 ob (amapSet Tryz.prog h6 262 (.map (Heap.next h)) (.int .i64 (.ofNat 1)) v5) fun h9 =>
 ob (S 214 [(.int .i64 (.ofNat 2))] h9) fun r10 => kres r10 (fun v11 h12 =>
 ob (amapSet Tryz.prog h12 262 (.map (Heap.next h)) (.int .i64 (.ofNat 2)) v11) fun h15 =>
 ob (S 215 [(.int .i64 (.ofNat 0)), (.int .i64 (.ofNat 1))] h15) fun r16 => kres r16 (fun v17 h18 =>
 ob (amapSet Tryz.prog h18 262 (.map (Heap.next h)) (.int .i64 (.ofNat 3)) v17) fun h21 =>
 ob (S 215 [(.int .i64 (.ofNat 0)), (.int .i64 (.ofNat 2))] h21) fun r22 => kres r22 (fun v23 h24 =>
 ob (amapSet Tryz.prog h24 262 (.map (Heap.next h)) (.int .i64 (.ofNat 4)) v23) fun h27 =>
 ob (S 215 [(.int .i64 (.ofNat 1)), (.int .i64 (.ofNat 3))] h27) fun r28 => kres r28 (fun v29 h30 =>
 ob (amapSet Tryz.prog h30 262 (.map (Heap.next h)) (.int .i64 (.ofNat 5)) v29) fun h33 =>
 ob (abuild Tryz.prog 261 [(0, (.func 216 []))]) fun v34 =>
 ob (amapSet Tryz.prog h33 262 (.map (Heap.next h)) (.int .i64 (.ofNat 6)) v34) fun h35 =>
 ob (abuild Tryz.prog 261 [(0, (.func 217 []))]) fun v36 =>
 ob (amapSet Tryz.prog h35 262 (.map (Heap.next h)) (.int .i64 (.ofNat 7)) v36) fun h37 =>
 (some (false, (.map (Heap.next h)), h37))) (fun p31 h32 => (some (true, p31, h32)))) (fun p25 h26 => (some (true, p25, h26)))) (fun p19 h20 => (some (true, p19, h20)))) (fun p13 h14 => (some (true, p13, h14)))) (fun p7 h8 => (some (true, p7, h8))))
theorem F158_ok {S : FS} {D : FD} (hS : SpecsOK Tryz.prog S) (hD : DynOK Tryz.prog D) : SpecOK Tryz.prog 158 (F158 S D) :=
  SpecOK.of (c := match Tryz.f158.body with | some c => c | none => .skip) (by kernel_rfl) hS hD ⟨Tryz.func158, rfl, by decide⟩
    (.seq .n (.seq .n .n)) 0 (fun args h => by kernel_rfl)
/-- slices.insertionSortOrdered[int] -/
noncomputable def F159 (S : FS) (D : FD) (args : List AV) (h : Heap) : Option (Bool × AV × Heap) :=
 kv3 args fun data_1 a_2 b_3 =>
 ob (kbinI .add a_2 (.int .i64 (.ofNat 1))) fun v4 =>
 ob (iterD (fun vs5 ds6 h7 => kv4 vs5 fun data_8 a_9 b_10 i_11 =>
  ob (kbinI .lss i_11 b_10) fun v12 =>
  kif v12
   (ob (iterD (fun vs13 ds14 h15 => kv5 vs13 fun data_16 a_17 b_18 i_19 j_20 =>
    ob (kbinI .gtr j_20 a_17) fun v21 =>
    ob (kgv true v21 (some data_16)) fun v22 =>
    ob (kgv true v21 (some j_20)) fun v23 =>
    ob (kgv true v21 (kia 1 v22 v23)) fun v24 =>
    ob (kgv true v21 (kload h15 v24)) fun v25 =>
    ob (kgv true v21 (some data_16)) fun v26 =>
    ob (kgv true v21 (some j_20)) fun v27 =>
    ob (kgv true v21 (kbinI .sub v27 (.int .i64 (.ofNat 1)))) fun v28 =>
    ob (kgv true v21 (kia 1 v26 v28)) fun v29 =>
    ob (kgv true v21 (kload h15 v29)) fun v30 =>
    ob (kgc true v21 h15 (S 165 [v25, v30] h15)) fun r31 => kres r31 (fun v32 h33 =>
    ob (kpick v21 v32 (.bool false)) fun v36 =>
    kif v36
     (ob (kbinI .sub j_20 (.int .i64 (.ofNat 1))) fun v37 =>
     ob (kbinI .sub j_20 (.int .i64 (.ofNat 1))) fun v38 =>
     ob (kia 1 data_16 v38) fun v39 =>
     ob (kload h33 v39) fun v40 =>
     ob (kia 1 data_16 j_20) fun v41 =>
     ob (kload h33 v41) fun v42 =>
     ob (kia 1 data_16 j_20) fun v43 =>
     ob (kstore 1 v43 v40 h33) fun h44 =>
     ob (kia 1 data_16 v37) fun v45 =>
     ob (kstore 1 v45 v42 h44) fun h46 =>
     ob (kbinI .sub j_20 (.int .i64 (.ofNat 1))) fun v47 =>
     (some ⟨0, [data_16, a_17, b_18, i_19, v47], ds14, h46⟩))
     ((some ⟨1, [data_16, a_17, b_18, i_19], ds14, h33⟩))) (fun p34 h35 => (some ⟨2, [p34], ds14, h35⟩))) rounds [data_8, a_9, b_10, i_11, i_11] ds6 h7) fun r48 => kcase (J.i r48) [kv4 (J.vs r48) fun data_49 a_50 b_51 i_52 =>
    ob (kbinI .add i_52 (.int .i64 (.ofNat 1))) fun v53 =>
    (some ⟨0, [data_49, a_50, b_51, v53], (J.ds r48), (J.h r48)⟩),
   kv1 (J.vs r48) fun p54 => (some ⟨2, [p54], (J.ds r48), (J.h r48)⟩)])
   ((some ⟨1, [], ds6, h7⟩))) rounds [data_1, a_2, b_3, v4] [] h) fun r55 => kcase (J.i r55) [kv0 (J.vs r55) ((dleave (fun h56 => (some (false, (.tuple []), h56))) (J.ds r55) (J.h r55))),
 kv1 (J.vs r55) fun p57 => (kds (J.ds r55) (some (true, p57, (J.h r55))))]
theorem F159_ok {S : FS} {D : FD} (hS : SpecsOK Tryz.prog S) (hD : DynOK Tryz.prog D) : SpecOK Tryz.prog 159 (F159 S D) :=
  SpecOK.of (c := match Tryz.f159.body with | some c => c | none => .skip) (by kernel_rfl) hS hD ⟨Tryz.func159, rfl, by decide⟩
    (.seq .n (.one (.loop [0, 1, 2, 6] [(.exit 0, []), (.pan, [])] (.seq (.seq .n (.dup .n .n)) (.seq (.one (.seq .n (.one (.loop [0, 1, 2, 6, 7] [(.exit 2, [0, 1, 2, 6]), (.pan, [])] (.seq (.seq .n (.dup .n .n)) (.seq (.one .n) .n)))))) .n))))) 3 (fun args h => by kernel_rfl)
/-- slices.heapSortOrdered[int] -/
noncomputable def F160 (S : FS) (D : FD) (args : List AV) (h : Heap) : Option (Bool × AV × Heap) :=
 kv3 args fun data_1 a_2 b_3 =>
 ob (kbinI .sub b_3 a_2) fun v4 =>
 ob (kbinI .sub v4 (.int .i64 (.ofNat 1))) fun v5 =>
 ob (kbinI .quo v5 (.int .i64 (.ofNat 2))) fun v6 =>
 ob (iterD (fun vs7 ds8 h9 => kv5 vs7 fun data_10 first_11 lo_12 hi_13 i_14 =>
  ob (kbinI .geq i_14 (.int .i64 (.ofNat 0))) fun v15 =>
  kif v15
   (ob (S 218 [data_10, i_14, hi_13, first_11] h9) fun r16 => kres r16 (fun v17 h18 =>
   ob (kbinI .sub i_14 (.int .i64 (.ofNat 1))) fun v21 =>
   (some ⟨0, [data_10, first_11, lo_12, hi_13, v21], ds8, h18⟩)) (fun p19 h20 => (some ⟨2, [p19], ds8, h20⟩)))
   ((some ⟨1, [data_10, first_11, lo_12, hi_13], ds8, h9⟩))) rounds [data_1, a_2, (.int .i64 (.ofNat 0)), v4, v6] [] h) fun r22 => kcase (J.i r22) [kv4 (J.vs r22) fun data_23 first_24 lo_25 hi_26 =>
  ob (kbinI .sub hi_26 (.int .i64 (.ofNat 1))) fun v27 =>
  ob (iterD (fun vs28 ds29 h30 => kv4 vs28 fun data_31 first_32 lo_33 i_34 =>
   ob (kbinI .geq i_34 (.int .i64 (.ofNat 0))) fun v35 =>
   kif v35
    (ob (kbinI .add first_32 i_34) fun v36 =>
    ob (kbinI .add first_32 i_34) fun v37 =>
    ob (kia 1 data_31 v37) fun v38 =>
    ob (kload h30 v38) fun v39 =>
    ob (kia 1 data_31 first_32) fun v40 =>
    ob (kload h30 v40) fun v41 =>
    ob (kia 1 data_31 first_32) fun v42 =>
    ob (kstore 1 v42 v39 h30) fun h43 =>
    ob (kia 1 data_31 v36) fun v44 =>
    ob (kstore 1 v44 v41 h43) fun h45 =>
    ob (S 218 [data_31, lo_33, i_34, first_32] h45) fun r46 => kres r46 (fun v47 h48 =>
    ob (kbinI .sub i_34 (.int .i64 (.ofNat 1))) fun v51 =>
    (some ⟨0, [data_31, first_32, lo_33, v51], ds29, h48⟩)) (fun p49 h50 => (some ⟨2, [p49], ds29, h50⟩)))
    ((some ⟨1, [], ds29, h30⟩))) rounds [data_23, first_24, lo_25, v27] (J.ds r22) (J.h r22)) fun r52 => kcase (J.i r52) [kv0 (J.vs r52) ((dleave (fun h53 => (some (false, (.tuple []), h53))) (J.ds r52) (J.h r52))),
  kv1 (J.vs r52) fun p54 => (kds (J.ds r52) (some (true, p54, (J.h r52))))],
 kv1 (J.vs r22) fun p55 => (kds (J.ds r22) (some (true, p55, (J.h r22))))]
theorem F160_ok {S : FS} {D : FD} (hS : SpecsOK Tryz.prog S) (hD : DynOK Tryz.prog D) : SpecOK Tryz.prog 160 (F160 S D) :=
  SpecOK.of (c := match Tryz.f160.body with | some c => c | none => .skip) (by kernel_rfl) hS hD ⟨Tryz.func160, rfl, by decide⟩
    (.seq .n (.seq .n (.seq .n (.seq (.seq .n (.one (.loop [0, 6, 7, 8, 9] [(.exit 0, [0, 6, 7, 8]), (.pan, [])] (.seq (.seq .n (.dup .n .n)) (.seq (.one .n) .n))))) (.seq .n (.one (.loop [0, 6, 7, 10] [(.exit 2, []), (.pan, [])] (.seq (.seq .n (.dup .n .n)) (.seq (.one (.seq .n .n)) .n))))))))) 3 (fun args h => by kernel_rfl)
/-- slices.breakPatternsOrdered[int] -/
noncomputable def F161 (S : FS) (D : FD) (args : List AV) (h : Heap) : Option (Bool × AV × Heap) :=
 kv3 args fun data_1 a_2 b_3 =>
 ob (kbinI .sub b_3 a_2) fun v4 =>
 ob (kbinI .geq v4 (.int .i64 (.ofNat 8))) fun v5 =>
 ob (kif v5
  (ob (kconvI .u64 v4) fun v7 =>
  Heap.pushK h (.cells [(.int .u64 (.ofNat 0))] true 194) fun h8 =>
  ob (kstore 1 (.ptr (Heap.next h) 0) v7 h8) fun h9 =>
  ob (S 99 [v4] h9) fun r10 => kres r10 (fun v11 h12 =>
  ob (kbinI .quo v4 (.int .i64 (.ofNat 4))) fun v15 =>
  ob (kbinI .mul v15 (.int .i64 (.ofNat 2))) fun v16 =>
  ob (kbinI .add a_2 v16) fun v17 =>
  ob (kbinI .sub v17 (.int .i64 (.ofNat 1))) fun v18 =>
  ob (iterD (fun vs19 ds20 h21 => kv6 vs19 fun data_22 a_23 length_24 random_25 modulus_26 idx_27 =>
   ob (kbinI .quo length_24 (.int .i64 (.ofNat 4))) fun v28 =>
   ob (kbinI .mul v28 (.int .i64 (.ofNat 2))) fun v29 =>
   ob (kbinI .add a_23 v29) fun v30 =>
   ob (kbinI .add v30 (.int .i64 (.ofNat 1))) fun v31 =>
   ob (kbinI .leq idx_27 v31) fun v32 =>
   kif v32
    (ob (S 100 [random_25] h21) fun r33 => kres r33 (fun v34 h35 =>
    ob (kbinI .sub modulus_26 (.int .u64 (.ofNat 1))) fun v38 =>
    ob (kbinI .and v34 v38) fun v39 =>
    ob (kconvI .i64 v39) fun v40 =>
    ob (kbinI .geq v40 length_24) fun v41 =>
    ob (kif v41
     (ob (kbinI .sub v40 length_24) fun v43 =>
     (some ⟨0, [data_22, a_23, length_24, random_25, modulus_26, idx_27, v43], ds20, h35⟩))
     ((some ⟨0, [data_22, a_23, length_24, random_25, modulus_26, idx_27, v40], ds20, h35⟩))) fun r42 => kcase (J.i r42) [kv7 (J.vs r42) fun data_44 a_45 length_46 random_47 modulus_48 idx_49 other_50 =>
     ob (kbinI .add a_45 other_50) fun v51 =>
     ob (kbinI .add a_45 other_50) fun v52 =>
     ob (kia 1 data_44 v52) fun v53 =>
     ob (kload (J.h r42) v53) fun v54 =>
     ob (kia 1 data_44 idx_49) fun v55 =>
     ob (kload (J.h r42) v55) fun v56 =>
     ob (kia 1 data_44 idx_49) fun v57 =>
     ob (kstore 1 v57 v54 (J.h r42)) fun h58 =>
     ob (kia 1 data_44 v51) fun v59 =>
     ob (kstore 1 v59 v56 h58) fun h60 =>
     ob (kbinI .add idx_49 (.int .i64 (.ofNat 1))) fun v61 =>
     (some ⟨0, [data_44, a_45, length_46, random_47, modulus_48, v61], (J.ds r42), h60⟩)]) (fun p36 h37 => (some ⟨2, [p36], ds20, h37⟩)))
    ((some ⟨1, [], ds20, h21⟩))) rounds [data_1, a_2, v4, (.ptr (Heap.next h) 0), v11, v18] [] h12) fun r62 => kcase (J.i r62) [kv0 (J.vs r62) ((some ⟨0, [], (J.ds r62), (J.h r62)⟩)),
  kv1 (J.vs r62) fun p63 => (some ⟨1, [p63], (J.ds r62), (J.h r62)⟩)]) (fun p13 h14 => (some ⟨1, [p13], [], h14⟩)))
  ((some ⟨0, [], [], h⟩))) fun r6 => kcase (J.i r6) [kv0 (J.vs r6) ((dleave (fun h64 => (some (false, (.tuple []), h64))) (J.ds r6) (J.h r6))),
 kv1 (J.vs r6) fun p65 => (kds (J.ds r6) (some (true, p65, (J.h r6))))]
theorem F161_ok {S : FS} {D : FD} (hS : SpecsOK Tryz.prog S) (hD : DynOK Tryz.prog D) : SpecOK Tryz.prog 161 (F161 S D) :=
  SpecOK.of (c := match Tryz.f161.body with | some c => c | none => .skip) (by kernel_rfl) hS hD ⟨Tryz.func161, rfl, by decide⟩
    (.seq .n (.seq .n (.join [(.norm, []), (.pan, [])] (.dup (.seq .n (.seq .n (.seq .n (.one (.loop [0, 1, 6, 7, 8, 9] [(.exit 0, []), (.pan, [])] (.seq (.seq .n (.dup .n .n)) (.seq (.one (.seq .n (.seq (.seq .n (.join [(.norm, [0, 1, 6, 7, 8, 9, 10])] (.dup .n .n))) .n))) .n))))))) .n)))) 3 (fun args h => by kernel_rfl)
/-- slices.choosePivotOrdered[int] -/
noncomputable def F162 (S : FS) (D : FD) (args : List AV) (h : Heap) : Option (Bool × AV × Heap) :=
 kv3 args fun data_1 a_2 b_3 =>
 ob (kbinI .sub b_3 a_2) fun v4 =>
 Heap.pushK h (.cells [(.int .i64 (.ofNat 0))] true 3) fun h5 =>
 ob (kbinI .quo v4 (.int .i64 (.ofNat 4))) fun v6 =>
 ob (kbinI .mul v6 (.int .i64 (.ofNat 1))) fun v7 =>
 ob (kbinI .add a_2 v7) fun v8 =>
 ob (kbinI .quo v4 (.int .i64 (.ofNat 4))) fun v9 =>
 ob (kbinI .mul v9 (.int .i64 (.ofNat 2))) fun v10 =>
 ob (kbinI .add a_2 v10) fun v11 =>
 ob (kbinI .quo v4 (.int .i64 (.ofNat 4))) fun v12 =>
 ob (kbinI .mul v12 (.int .i64 (.ofNat 3))) fun v13 =>
 ob (kbinI .add a_2 v13) fun v14 =>
 ob (kbinI .geq v4 (.int .i64 (.ofNat 8))) fun v15 =>
 ob (kif v15
  (ob (kbinI .geq v4 (.int .i64 (.ofNat 50))) fun v17 =>
  ob (kif v17
   (ob (S 219 [data_1, v8, (.ptr (Heap.next h) 0)] h5) fun r19 => kres r19 (fun v20 h21 =>
   ob (S 219 [data_1, v11, (.ptr (Heap.next h) 0)] h21) fun r24 => kres r24 (fun v25 h26 =>
   ob (S 219 [data_1, v14, (.ptr (Heap.next h) 0)] h26) fun r29 => kres r29 (fun v30 h31 =>
   (some ⟨0, [data_1, (.ptr (Heap.next h) 0), v20, v25, v30], [], h31⟩)) (fun p32 h33 => (some ⟨1, [p32], [], h33⟩))) (fun p27 h28 => (some ⟨1, [p27], [], h28⟩))) (fun p22 h23 => (some ⟨1, [p22], [], h23⟩)))
   ((some ⟨0, [data_1, (.ptr (Heap.next h) 0), v8, v11, v14], [], h5⟩))) fun r18 => kcase (J.i r18) [kv5 (J.vs r18) fun data_34 swaps_35 i_36 j_37 k_38 =>
   ob (S 220 [data_34, i_36, j_37, k_38, swaps_35] (J.h r18)) fun r39 => kres r39 (fun v40 h41 =>
   (some ⟨0, [swaps_35, v40], (J.ds r18), h41⟩)) (fun p42 h43 => (some ⟨1, [p42], (J.ds r18), h43⟩)),
  kv1 (J.vs r18) fun p44 => (some ⟨1, [p44], (J.ds r18), (J.h r18)⟩)])
  ((some ⟨0, [(.ptr (Heap.next h) 0), v11], [], h5⟩))) fun r16 => kcase (J.i r16) [kv2 (J.vs r16) fun swaps_45 j_46 =>
  ob (kload (J.h r16) swaps_45) fun v47 =>
  ob (kbinI .eql v47 (.int .i64 (.ofNat 0))) fun v48 =>
  kif v48
   ((dleave (fun h49 => (some (false, (.tuple [j_46, (.int .i64 (.ofNat 1))]), h49))) (J.ds r16) (J.h r16)))
   (ob (kbinI .eql v47 (.int .i64 (.ofNat 12))) fun v50 =>
   kif v50
    ((dleave (fun h51 => (some (false, (.tuple [j_46, (.int .i64 (.ofNat 2))]), h51))) (J.ds r16) (J.h r16)))
    ((dleave (fun h52 => (some (false, (.tuple [j_46, (.int .i64 (.ofNat 0))]), h52))) (J.ds r16) (J.h r16)))),
 kv1 (J.vs r16) fun p53 => (kds (J.ds r16) (some (true, p53, (J.h r16))))]
theorem F162_ok {S : FS} {D : FD} (hS : SpecsOK Tryz.prog S) (hD : DynOK Tryz.prog D) : SpecOK Tryz.prog 162 (F162 S D) :=
  SpecOK.of (c := match Tryz.f162.body with | some c => c | none => .skip) (by kernel_rfl) hS hD ⟨Tryz.func162, rfl, by decide⟩
    (.seq .n (.seq .n (.seq .n (.seq .n (.seq .n (.seq .n (.seq (.seq .n (.join [(.norm, [9, 11]), (.pan, [])] (.dup (.seq (.seq .n (.join [(.norm, [0, 9, 10, 11, 12]), (.pan, [])] (.dup (.seq .n (.seq .n .n)) .n))) .n) .n))) (.seq .n (.one (.seq .n (.dup (.seq .n .n) (.seq .n (.dup (.seq .n .n) (.seq .n .n)))))))))))))) 3 (fun args h => by kernel_rfl)
/-- slices.reverseRangeOrdered[int] -/
noncomputable def F163 (S : FS) (D : FD) (args : List AV) (h : Heap) : Option (Bool × AV × Heap) :=
 kv3 args fun data_1 a_2 b_3 =>
 ob (kbinI .sub b_3 (.int .i64 (.ofNat 1))) fun v4 =>
 ob (iterD (fun vs5 ds6 h7 => kv3 vs5 fun data_8 i_9 j_10 =>
  ob (kbinI .lss i_9 j_10) fun v11 =>
  kif v11
   (ob (kia 1 data_8 j_10) fun v12 =>
   ob (kload h7 v12) fun v13 =>
   ob (kia 1 data_8 i_9) fun v14 =>
   ob (kload h7 v14) fun v15 =>
   ob (kia 1 data_8 i_9) fun v16 =>
   ob (kstore 1 v16 v13 h7) fun h17 =>
   ob (kia 1 data_8 j_10) fun v18 =>
   ob (kstore 1 v18 v15 h17) fun h19 =>
   ob (kbinI .add i_9 (.int .i64 (.ofNat 1))) fun v20 =>
   ob (kbinI .sub j_10 (.int .i64 (.ofNat 1))) fun v21 =>
   (some ⟨0, [data_8, v20, v21], ds6, h19⟩))
   ((some ⟨1, [], ds6, h7⟩))) rounds [data_1, a_2, v4] [] h) fun r22 => kcase (J.i r22) [kv0 (J.vs r22) ((dleave (fun h23 => (some (false, (.tuple []), h23))) (J.ds r22) (J.h r22)))]
theorem F163_ok {S : FS} {D : FD} (hS : SpecsOK Tryz.prog S) (hD : DynOK Tryz.prog D) : SpecOK Tryz.prog 163 (F163 S D) :=
  SpecOK.of (c := match Tryz.f163.body with | some c => c | none => .skip) (by kernel_rfl) hS hD ⟨Tryz.func163, rfl, by decide⟩
    (.seq .n (.seq .n (.one (.loop [0, 6, 7] [(.exit 0, [])] (.seq (.seq .n (.dup .n .n)) (.one (.seq .n (.seq .n .n)))))))) 3 (fun args h => by kernel_rfl)
/-- slices.partialInsertionSortOrdered[int] -/
noncomputable def F164 (S : FS) (D : FD) (args : List AV) (h : Heap) : Option (Bool × AV × Heap) :=
 kv3 args fun data_1 a_2 b_3 =>
 ob (kbinI .add a_2 (.int .i64 (.ofNat 1))) fun v4 =>
 ob (iterD (fun vs5 ds6 h7 => kv5 vs5 fun data_8 a_9 b_10 i_11 j_12 =>
  ob (kbinI .lss j_12 (.int .i64 (.ofNat 5))) fun v13 =>
  kif v13
   (ob (iterD (fun vs14 ds15 h16 => kv5 vs14 fun data_17 a_18 b_19 i_20 j_21 =>
    ob (kbinI .lss i_20 b_19) fun v22 =>
    ob (kgv true v22 (some data_17)) fun v23 =>
    ob (kgv true v22 (some i_20)) fun v24 =>
    ob (kgv true v22 (kia 1 v23 v24)) fun v25 =>
    ob (kgv true v22 (kload h16 v25)) fun v26 =>
    ob (kgv true v22 (some data_17)) fun v27 =>
    ob (kgv true v22 (some i_20)) fun v28 =>
    ob (kgv true v22 (kbinI .sub v28 (.int .i64 (.ofNat 1)))) fun v29 =>
    ob (kgv true v22 (kia 1 v27 v29)) fun v30 =>
    ob (kgv true v22 (kload h16 v30)) fun v31 =>
    ob (kgc true v22 h16 (S 165 [v26, v31] h16)) fun r32 => kres r32 (fun v33 h34 =>
    ob (kgv true v22 (aun .not v33)) fun v37 =>
    ob (kpick v22 v37 (.bool false)) fun v38 =>
    kif v38
     (ob (kbinI .add i_20 (.int .i64 (.ofNat 1))) fun v39 =>
     (some ⟨0, [data_17, a_18, b_19, v39, j_21], ds15, h34⟩))
     ((some ⟨1, [data_17, a_18, b_19, i_20, j_21], ds15, h34⟩))) (fun p35 h36 => (some ⟨2, [p35], ds15, h36⟩))) rounds [data_8, a_9, b_10, i_11, j_12] ds6 h7) fun r40 => kcase (J.i r40) [kv5 (J.vs r40) fun data_41 a_42 b_43 i_44 j_45 =>
    ob (kbinI .eql i_44 b_43) fun v46 =>
    kif v46
     ((some ⟨2, [(.bool true)], (J.ds r40), (J.h r40)⟩))
     (ob (kbinI .sub b_43 a_42) fun v47 =>
     ob (kbinI .lss v47 (.int .i64 (.ofNat 50))) fun v48 =>
     kif v48
      ((some ⟨2, [(.bool false)], (J.ds r40), (J.h r40)⟩))
      (ob (kbinI .sub i_44 (.int .i64 (.ofNat 1))) fun v49 =>
      ob (kbinI .sub i_44 (.int .i64 (.ofNat 1))) fun v50 =>
      ob (kia 1 data_41 v50) fun v51 =>
      ob (kload (J.h r40) v51) fun v52 =>
      ob (kia 1 data_41 i_44) fun v53 =>
      ob (kload (J.h r40) v53) fun v54 =>
      ob (kia 1 data_41 i_44) fun v55 =>
      ob (kstore 1 v55 v52 (J.h r40)) fun h56 =>
      ob (kia 1 data_41 v49) fun v57 =>
      ob (kstore 1 v57 v54 h56) fun h58 =>
      ob (kbinI .sub i_44 a_42) fun v59 =>
      ob (kbinI .geq v59 (.int .i64 (.ofNat 2))) fun v60 =>
      ob (kif v60
       (ob (kbinI .sub i_44 (.int .i64 (.ofNat 1))) fun v62 =>
       ob (iterD (fun vs63 ds64 h65 => kv6 vs63 fun data_66 a_67 b_68 i_69 j_70 j_71 =>
        ob (kbinI .geq j_71 (.int .i64 (.ofNat 1))) fun v72 =>
        kif v72
         (ob (kia 1 data_66 j_71) fun v73 =>
         ob (kload h65 v73) fun v74 =>
         ob (kbinI .sub j_71 (.int .i64 (.ofNat 1))) fun v75 =>
         ob (kia 1 data_66 v75) fun v76 =>
         ob (kload h65 v76) fun v77 =>
         ob (S 165 [v74, v77] h65) fun r78 => kres r78 (fun v79 h80 =>
         ob (aun .not v79) fun v83 =>
         kif v83
          ((some ⟨1, [data_66, a_67, b_68, i_69, j_70], ds64, h80⟩))
          (ob (kbinI .sub j_71 (.int .i64 (.ofNat 1))) fun v84 =>
          ob (kbinI .sub j_71 (.int .i64 (.ofNat 1))) fun v85 =>
          ob (kia 1 data_66 v85) fun v86 =>
          ob (kload h80 v86) fun v87 =>
          ob (kia 1 data_66 j_71) fun v88 =>
          ob (kload h80 v88) fun v89 =>
          ob (kia 1 data_66 j_71) fun v90 =>
          ob (kstore 1 v90 v87 h80) fun h91 =>
          ob (kia 1 data_66 v84) fun v92 =>
          ob (kstore 1 v92 v89 h91) fun h93 =>
          ob (kbinI .sub j_71 (.int .i64 (.ofNat 1))) fun v94 =>
          (some ⟨0, [data_66, a_67, b_68, i_69, j_70, v94], ds64, h93⟩))) (fun p81 h82 => (some ⟨2, [p81], ds64, h82⟩)))
         ((some ⟨1, [data_66, a_67, b_68, i_69, j_70], ds64, h65⟩))) rounds [data_41, a_42, b_43, i_44, j_45, v62] (J.ds r40) h58) fun r95 => kcase (J.i r95) [kv5 (J.vs r95) fun data_96 a_97 b_98 i_99 j_100 =>
        (some ⟨0, [data_96, a_97, b_98, i_99, j_100], (J.ds r95), (J.h r95)⟩),
       kv1 (J.vs r95) fun p101 => (some ⟨1, [p101], (J.ds r95), (J.h r95)⟩)])
       ((some ⟨0, [data_41, a_42, b_43, i_44, j_45], (J.ds r40), h58⟩))) fun r61 => kcase (J.i r61) [kv5 (J.vs r61) fun data_102 a_103 b_104 i_105 j_106 =>
       ob (kbinI .sub b_104 i_105) fun v107 =>
       ob (kbinI .geq v107 (.int .i64 (.ofNat 2))) fun v108 =>
       ob (kif v108
        (ob (kbinI .add i_105 (.int .i64 (.ofNat 1))) fun v110 =>
        ob (iterD (fun vs111 ds112 h113 => kv6 vs111 fun data_114 a_115 b_116 i_117 j_118 j_119 =>
         ob (kbinI .lss j_119 b_116) fun v120 =>
         kif v120
          (ob (kia 1 data_114 j_119) fun v121 =>
          ob (kload h113 v121) fun v122 =>
          ob (kbinI .sub j_119 (.int .i64 (.ofNat 1))) fun v123 =>
          ob (kia 1 data_114 v123) fun v124 =>
          ob (kload h113 v124) fun v125 =>
          ob (S 165 [v122, v125] h113) fun r126 => kres r126 (fun v127 h128 =>
          ob (aun .not v127) fun v131 =>
          kif v131
           ((some ⟨1, [data_114, a_115, b_116, i_117, j_118], ds112, h128⟩))
           (ob (kbinI .sub j_119 (.int .i64 (.ofNat 1))) fun v132 =>
           ob (kbinI .sub j_119 (.int .i64 (.ofNat 1))) fun v133 =>
           ob (kia 1 data_114 v133) fun v134 =>
           ob (kload h128 v134) fun v135 =>
           ob (kia 1 data_114 j_119) fun v136 =>
           ob (kload h128 v136) fun v137 =>
           ob (kia 1 data_114 j_119) fun v138 =>
           ob (kstore 1 v138 v135 h128) fun h139 =>
           ob (kia 1 data_114 v132) fun v140 =>
           ob (kstore 1 v140 v137 h139) fun h141 =>
           ob (kbinI .add j_119 (.int .i64 (.ofNat 1))) fun v142 =>
           (some ⟨0, [data_114, a_115, b_116, i_117, j_118, v142], ds112, h141⟩))) (fun p129 h130 => (some ⟨2, [p129], ds112, h130⟩)))
          ((some ⟨1, [data_114, a_115, b_116, i_117, j_118], ds112, h113⟩))) rounds [data_102, a_103, b_104, i_105, j_106, v110] (J.ds r61) (J.h r61)) fun r143 => kcase (J.i r143) [kv5 (J.vs r143) fun data_144 a_145 b_146 i_147 j_148 =>
         (some ⟨0, [data_144, a_145, b_146, i_147, j_148], (J.ds r143), (J.h r143)⟩),
        kv1 (J.vs r143) fun p149 => (some ⟨1, [p149], (J.ds r143), (J.h r143)⟩)])
        ((some ⟨0, [data_102, a_103, b_104, i_105, j_106], (J.ds r61), (J.h r61)⟩))) fun r109 => kcase (J.i r109) [kv5 (J.vs r109) fun data_150 a_151 b_152 i_153 j_154 =>
        ob (kbinI .add j_154 (.int .i64 (.ofNat 1))) fun v155 =>
        (some ⟨0, [data_150, a_151, b_152, i_153, v155], (J.ds r109), (J.h r109)⟩),
       kv1 (J.vs r109) fun p156 => (some ⟨3, [p156], (J.ds r109), (J.h r109)⟩)],
      kv1 (J.vs r61) fun p157 => (some ⟨3, [p157], (J.ds r61), (J.h r61)⟩)])),
   kv1 (J.vs r40) fun p158 => (some ⟨3, [p158], (J.ds r40), (J.h r40)⟩)])
   ((some ⟨1, [], ds6, h7⟩))) rounds [data_1, a_2, b_3, v4, (.int .i64 (.ofNat 0))] [] h) fun r159 => kcase (J.i r159) [kv0 (J.vs r159) ((dleave (fun h160 => (some (false, (.bool false), h160))) (J.ds r159) (J.h r159))),
 kv1 (J.vs r159) fun v161 =>
  (dleave (fun h162 => (some (false, v161, h162))) (J.ds r159) (J.h r159)),
 kv1 (J.vs r159) fun p163 => (kds (J.ds r159) (some (true, p163, (J.h r159))))]
theorem F164_ok {S : FS} {D : FD} (hS : SpecsOK Tryz.prog S) (hD : DynOK Tryz.prog D) : SpecOK Tryz.prog 164 (F164 S D) :=
  SpecOK.of (c := match Tryz.f164.body with | some c => c | none => .skip) (by kernel_rfl) hS hD ⟨Tryz.func164, rfl, by decide⟩
    (.seq .n (.seq .n (.seq (.seq .n (.one (.loop [0, 1, 2, 7, 8] [(.exit 0, []), (.ret, [6]), (.pan, [])] (.seq (.seq .n (.dup .n .n)) (.seq (.one (.seq (.one (.loop [0, 1, 2, 7, 8] [(.exit 2, [0, 1, 2, 7, 8]), (.pan, [])] (.seq (.seq .n (.dup .n .n)) (.one .n)))) (.seq (.seq .n (.dup (.seq .n .n) .n)) (.seq (.seq .n (.dup (.seq .n .n) .n)) (.seq .n (.seq (.seq .n (.join [(.norm, [0, 1, 2, 7, 8]), (.pan, [])] (.dup (.seq .n (.one (.loop [0, 1, 2, 7, 8, 9] [(.exit 4, [0, 1, 2, 7, 8]), (.pan, [])] (.seq (.seq .n (.dup .n .n)) (.seq (.one (.seq (.seq .n (.dup .n .n)) .n)) .n))))) .n))) (.seq .n (.join [(.norm, [0, 1, 2, 7, 8]), (.pan, [])] (.dup (.seq .n (.one (.loop [0, 1, 2, 7, 8, 10] [(.exit 6, [0, 1, 2, 7, 8]), (.pan, [])] (.seq (.seq .n (.dup .n .n)) (.seq (.one (.seq (.seq .n (.dup .n .n)) .n)) .n))))) .n))))))))) .n))))) (.seq .n .n)))) 3 (fun args h => by kernel_rfl)
/-- cmp.Less[int] -/
noncomputable def F165 (S : FS) (D : FD) (args : List AV) (h : Heap) : Option (Bool × AV × Heap) :=
 kv2 args fun x_1 y_2 =>
 ob (S 60 [x_1] h) fun r3 => kres r3 (fun v4 h5 =>
 ob (kgv true v4 (some y_2)) fun v8 =>
 ob (kgc true v4 h5 (S 60 [v8] h5)) fun r9 => kres r9 (fun v10 h11 =>
 ob (kgv true v4 (aun .not v10)) fun v14 =>
 ob (kpick v4 v14 (.bool false)) fun v15 =>
 ob (kgv false v15 (some x_1)) fun v16 =>
 ob (kgv false v15 (some y_2)) fun v17 =>
 ob (kgv false v15 (kbinI .lss v16 v17)) fun v18 =>
 ob (kpick v15 (.bool true) v18) fun v19 =>
 (some (false, v19, h11))) (fun p12 h13 => (some (true, p12, h13)))) (fun p6 h7 => (some (true, p6, h7)))
theorem F165_ok {S : FS} {D : FD} (hS : SpecsOK Tryz.prog S) (hD : DynOK Tryz.prog D) : SpecOK Tryz.prog 165 (F165 S D) :=
  SpecOK.of (c := match Tryz.f165.body with | some c => c | none => .skip) (by kernel_rfl) hS hD ⟨Tryz.func165, rfl, by decide⟩
    (.seq .n (.seq .n .n)) 2 (fun args h => by kernel_rfl)
end Go.Rh.Tryz
