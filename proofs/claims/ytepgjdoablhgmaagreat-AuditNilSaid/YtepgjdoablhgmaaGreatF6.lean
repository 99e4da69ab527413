/- Printed by wip/tools/gen.py: functions of the program as plain functions over abstract values, each with its proof. -/
import Derived.Test.YtepgjdoablhgmaaGreatProg
import Derived.Test.YtepgjdoablhgmaaGreatRh3
set_option maxRecDepth 1000000
set_option linter.unusedVariables false
namespace Go.Rh.Tryz
open Go.Proofs
/-- slices.DeleteFunc[[]roundhouse/api.Task,roundhouse/api.Task] -/
noncomputable def F196 (S : FS) (D : FD) (args : List AV) (h : Heap) : Option (Bool × AV × Heap) :=
 kv2 args fun s_1 del_2 =>
 ob (S 255 [s_1, del_2] h) fun r3 => kres r3 (fun v4 h5 =>
 ob (kbinI .eql v4 (.int .i64 (.negSucc 0))) fun v8 =>
 kif v8
  ((some (false, s_1, h5)))
  (ob (kbinI .add v4 (.int .i64 (.ofNat 1))) fun v9 =>
  ob (iterD (fun vs10 ds11 h12 => kv4 vs10 fun s_13 del_14 i_15 j_16 =>
   ob (klenL s_13) fun v17 =>
   ob (kbinI .lss j_16 v17) fun v18 =>
   kif v18
    (ob (kia 8 s_13 j_16) fun v19 =>
    ob (kloadN 8 h12 v19) fun v20 =>
    Heap.pushK h12 (.cells [(.int .i64 (.ofNat 0)), (.int .i64 (.ofNat 0)), (.int .i64 (.ofNat 0)), (.int .i64 (.ofNat 0)), (.int .i64 (.ofNat 0)), AV.nilslice, (.int .i64 (.ofNat 0)), (.int .i64 (.ofNat 0))] true 39) fun h21 =>
    ob (kstore 8 (.ptr (Heap.next h12) 0) v20 h21) fun h22 =>
    ob (kloadN 8 h22 (.ptr (Heap.next h12) 0)) fun v23 =>
    ob (D del_14 [v23] h22) fun r24 => kres r24 (fun v25 h26 =>
    ob (aun .not v25) fun v29 =>
    ob (kif v29
     (ob (kloadN 8 h26 (.ptr (Heap.next h12) 0)) fun v31 =>
     ob (kia 8 s_13 i_15) fun v32 =>
     ob (kstore 8 v32 v31 h26) fun h33 =>
     ob (kbinI .add i_15 (.int .i64 (.ofNat 1))) fun v34 =>
     (some ⟨0, [s_13, del_14, v34, j_16], ds11, h33⟩))
     ((some ⟨0, [s_13, del_14, i_15, j_16], ds11, h26⟩))) fun r30 => kcase (J.i r30) [kv4 (J.vs r30) fun s_35 del_36 i_37 j_38 =>
     ob (kbinI .add j_38 (.int .i64 (.ofNat 1))) fun v39 =>
     (some ⟨0, [s_35, del_36, i_37, v39], (J.ds r30), (J.h r30)⟩)]) (fun p27 h28 => (some ⟨2, [p27], ds11, h28⟩)))
    ((some ⟨1, [s_13, i_15], ds11, h12⟩))) rounds [s_1, del_2, v4, v9] [] h5) fun r40 => kcase (J.i r40) [kv2 (J.vs r40) fun s_41 i_42 =>
   ob (aslice Tryz.prog 33 s_41 (some i_42) none none) fun v43 =>
   ob (aclear Tryz.prog (J.h r40) 33 v43) fun h44 =>
   ob (aslice Tryz.prog 33 s_41 none (some i_42) none) fun v45 =>
   (dleave (fun h46 => (some (false, v45, h46))) (J.ds r40) h44),
  kv1 (J.vs r40) fun p47 => (kds (J.ds r40) (some (true, p47, (J.h r40))))])) (fun p6 h7 => (some (true, p6, h7)))
theorem F196_ok {S : FS} {D : FD} (hS : SpecsOK Tryz.prog S) (hD : DynOK Tryz.prog D) : SpecOK Tryz.prog 196 (F196 S D) :=
  SpecOK.of (c := match Tryz.f196.body with | some c => c | none => .skip) (by kernel_rfl) hS hD ⟨Tryz.func196, rfl, by decide⟩
    (.seq .n (.seq .n (.seq (.seq .n (.dup (.seq .n .n) .n)) (.seq (.seq .n (.one (.loop [0, 1, 5, 6] [(.exit 0, [0, 5]), (.pan, [])] (.seq (.seq .n (.dup .n .n)) (.seq (.one (.seq .n (.seq .n (.join [(.norm, [0, 1, 5, 6])] (.dup (.seq .n .n) .n))))) .n))))) (.seq .n (.seq .n .n)))))) 2 (fun args h => by kernel_rfl)
/-- (*roundhouse/world.World).exit$1 -/
noncomputable def F197 (S : FS) (D : FD) (args : List AV) (h : Heap) : Option (Bool × AV × Heap) :=
 kv1 args fun x_1 =>
 knt x_1 (Heap.pushK h (.cells (AV.cells x_1) true 39) fun h2 =>
 ob (kfa 6 (.ptr (Heap.next h) 0)) fun v3 =>
 ob (kload h2 v3) fun v4 =>
 ob (kbinI .neq v4 (.int .i64 (.ofNat 1))) fun v5 =>
 (some (false, v5, h2)))
theorem F197_ok {S : FS} {D : FD} (hS : SpecsOK Tryz.prog S) (hD : DynOK Tryz.prog D) : SpecOK Tryz.prog 197 (F197 S D) :=
  SpecOK.of (c := match Tryz.f197.body with | some c => c | none => .skip) (by kernel_rfl) hS hD ⟨Tryz.func197, rfl, by decide⟩
    (.seq .n (.seq .n .n)) 1 (fun args h => by kernel_rfl)
/-- (*roundhouse/agent.Agent).Exit -/
noncomputable def F198 (S : FS) (D : FD) (args : List AV) (h : Heap) : Option (Bool × AV × Heap) :=
 kv4 args fun a_1 pid_2 code_3 tear_4 =>
 ob (S 14 [a_1] h) fun r5 => kres r5 (fun v6 h7 =>
 ob (kgv false v6 (some a_1)) fun v10 =>
 ob (kgv false v6 (knil v10)) fun v11 =>
 ob (kgv false v6 (kfa 0 v11)) fun v12 =>
 ob (kgv false v6 (kfa 1 v12)) fun v13 =>
 ob (kgv false v6 (kload h7 v13)) fun v14 =>
 ob (kgv false v6 (some pid_2)) fun v15 =>
 ob (kgv false v6 (some code_3)) fun v16 =>
 ob (kgc false v6 h7 (S 256 [v14, v15, v16] h7)) fun r17 => kres r17 (fun v18 h19 =>
 ob (kgv false v6 (kbinI .neq v18 (.int .i64 (.ofNat 0)))) fun v22 =>
 ob (kpick v6 (.bool true) v22) fun v23 =>
 kif v23
  ((some (false, AV.nilslice, h19)))
  (ob (abuildSlice Tryz.prog 37 1 [(0, pid_2)]) fun r24 => Heap.pushK h19 (.cells r24.1 true r24.2.2) fun h25 =>
  ob (S 257 [a_1, (.slice (Heap.next h19) 0 1 1 r24.2.1)] h25) fun r26 => kres r26 (fun v27 h28 =>
  ob (kia 8 v27 (.int .i64 (.ofNat 0))) fun v31 =>
  ob (kloadN 8 h28 v31) fun v32 =>
  Heap.pushK h28 (.cells [(.int .i64 (.ofNat 0)), (.int .i64 (.ofNat 0)), (.int .i64 (.ofNat 0)), (.int .i64 (.ofNat 0)), (.int .i64 (.ofNat 0)), AV.nilslice, (.int .i64 (.ofNat 0)), (.int .i64 (.ofNat 0))] true 39) fun h33 =>
  ob (kstore 8 (.ptr (Heap.next h28) 0) v32 h33) fun h34 =>
  ob (kloadN 8 h34 (.ptr (Heap.next h28) 0)) fun v35 =>
  ob (S 258 [a_1, v35] h34) fun r36 => kres r36 (fun v37 h38 =>
  ob (knil a_1) fun v41 =>
  ob (kfa 12 v41) fun v42 =>
  ob (kloadN 3 h38 v42) fun v43 =>
  ob (kfa 1 (.ptr (Heap.next h28) 0)) fun v44 =>
  ob (kload h38 v44) fun v45 =>
  ob (kfa 2 (.ptr (Heap.next h28) 0)) fun v46 =>
  ob (kload h38 v46) fun v47 =>
  ob (kfa 3 (.ptr (Heap.next h28) 0)) fun v48 =>
  ob (kload h38 v48) fun v49 =>
  kfree h38 (Heap.pushK h38 (.cells [(.int .i64 (.ofNat 0)), (.int .i64 (.ofNat 0)), (.int .i64 (.ofNat 0)), (.int .i64 (.ofNat 0)), (.int .i64 (.ofNat 0)), AV.nilslice] true 156) fun h50 =>
  ob (S 259 [v43, v45, v47, v49] h50) fun r51 => kres r51 (fun v52 h53 =>
  kro (Heap.next h38) h50 h53 (ob (aextract v52 0) fun v56 =>
  ob (aextract v52 1) fun v57 =>
  ob (kstore 6 (.ptr (Heap.next h38) 0) v56 h53) fun h58 =>
  ob (kfa 3 (.ptr (Heap.next h38) 0)) fun v59 =>
  ob (kload h58 v59) fun v60 =>
  ob (kbinI .neq v60 (.int .i64 (.ofNat 1))) fun v61 =>
  kif v61
   ((some (false, AV.nilslice, h58)))
   (ob (kloadN 6 h58 (.ptr (Heap.next h38) 0)) fun v62 =>
   ob (S 202 [a_1, v62, tear_4] h58) fun r63 => kres r63 (fun v64 h65 =>
   (some (false, v64, h65))) (fun p66 h67 => (some (true, p66, h67)))))) (fun p54 h55 => none))) (fun p39 h40 => (some (true, p39, h40)))) (fun p29 h30 => (some (true, p29, h30))))) (fun p20 h21 => (some (true, p20, h21)))) (fun p8 h9 => (some (true, p8, h9)))
theorem F198_ok {S : FS} {D : FD} (hS : SpecsOK Tryz.prog S) (hD : DynOK Tryz.prog D) : SpecOK Tryz.prog 198 (F198 S D) :=
  SpecOK.of (c := match Tryz.f198.body with | some c => c | none => .skip) (by kernel_rfl) hS hD ⟨Tryz.func198, rfl, by decide⟩
    (.seq .n (.seq (.seq .n (.dup (.seq .n .n) .n)) (.seq .n (.seq .n (.seq .n (.seq (.seq .n (.dup (.seq .n .n) .n)) (.seq .n .n))))))) 4 (fun args h => by kernel_rfl)
/-- roundhouse/journal.Repair -/
noncomputable def F199 (S : FS) (D : FD) (args : List AV) (h : Heap) : Option (Bool × AV × Heap) :=
 kv1 args fun log_1 =>
 ob (S 68 [log_1] h) fun r2 => kres r2 (fun v3 h4 =>
 ob (aextract v3 0) fun v7 =>
 ob (aextract v3 1) fun v8 =>
 ob (aslice Tryz.prog 9 log_1 none (some v8) none) fun v9 =>
 (some (false, v9, h4))) (fun p5 h6 => (some (true, p5, h6)))
theorem F199_ok {S : FS} {D : FD} (hS : SpecsOK Tryz.prog S) (hD : DynOK Tryz.prog D) : SpecOK Tryz.prog 199 (F199 S D) :=
  SpecOK.of (c := match Tryz.f199.body with | some c => c | none => .skip) (by kernel_rfl) hS hD ⟨Tryz.func199, rfl, by decide⟩
    (.seq .n (.seq .n (.seq .n .n))) 1 (fun args h => by kernel_rfl)
/-- (*roundhouse/agent.Agent).adopt -/
noncomputable def F201 (S : FS) (D : FD) (args : List AV) (h : Heap) : Option (Bool × AV × Heap) :=
 kv2 args fun a_1 x_2 =>
 knt x_2 (Heap.pushK h (.cells (AV.cells x_2) true 156) fun h3 =>
 Heap.pushK h3 (.cells [(.int .u64 (.ofNat 0)), (.int .u64 (.ofNat 0)), (.int .u64 (.ofNat 0)), (.int .u64 (.ofNat 0))] true 98) fun h4 =>
 ob (kfa 5 (.ptr (Heap.next h) 0)) fun v5 =>
 ob (kload h4 v5) fun v6 =>
 ob (S 257 [a_1, v6] h4) fun r7 => kres r7 (fun v8 h9 =>
 ob (klenL v8) fun v12 =>
 ob (iterD (fun vs13 ds14 h15 => kv6 vs13 fun a_16 x_17 all_18 v19 v20 v21 =>
  ob (kbinI .lss v21 v20) fun v22 =>
  kif v22
   (ob (kia 8 v19 v21) fun v23 =>
   ob (kloadN 8 h15 v23) fun v24 =>
   Heap.pushK h15 (.cells [(.int .i64 (.ofNat 0)), (.int .i64 (.ofNat 0)), (.int .i64 (.ofNat 0)), (.int .i64 (.ofNat 0)), (.int .i64 (.ofNat 0)), AV.nilslice, (.int .i64 (.ofNat 0)), (.int .i64 (.ofNat 0))] true 39) fun h25 =>
   ob (kstore 8 (.ptr (Heap.next h15) 0) v24 h25) fun h26 =>
   ob (kfa 5 (.ptr (Heap.next h15) 0)) fun v27 =>
   ob (kload h26 v27) fun v28 =>
   ob (S 261 [v28] h26) fun r29 => kres r29 (fun v30 h31 =>
   ob (aextract v30 0) fun v34 =>
   ob (aextract v30 1) fun v35 =>
   Heap.pushK h31 (.cells [(.int .u64 (.ofNat 0)), (.int .u64 (.ofNat 0)), (.int .u64 (.ofNat 0)), (.int .u64 (.ofNat 0))] true 98) fun h36 =>
   ob (kstore 4 (.ptr (Heap.next h31) 0) v34 h36) fun h37 =>
   ob (kloadN 4 h37 all_18) fun v38 =>
   ob (kloadN 4 h37 (.ptr (Heap.next h31) 0)) fun v39 =>
   ob (S 262 [v38, v39] h37) fun r40 => kres r40 (fun v41 h42 =>
   ob (kstore 4 all_18 v41 h42) fun h45 =>
   ob (kbinI .add v21 (.int .i64 (.ofNat 1))) fun v46 =>
   (some ⟨0, [a_16, x_17, all_18, v19, v20, v46], ds14, h45⟩)) (fun p43 h44 => (some ⟨2, [p43], ds14, h44⟩))) (fun p32 h33 => (some ⟨2, [p32], ds14, h33⟩)))
   ((some ⟨1, [a_16, x_17, all_18], ds14, h15⟩))) rounds [a_1, (.ptr (Heap.next h) 0), (.ptr (Heap.next h3) 0), v8, v12, (.int .i64 (.ofNat 0))] [] h9) fun r47 => kcase (J.i r47) [kv3 (J.vs r47) fun a_48 x_49 all_50 =>
  ob (knil a_48) fun v51 =>
  ob (kfa 15 v51) fun v52 =>
  ob (kload (J.h r47) v52) fun v53 =>
  ob (kloadN 6 (J.h r47) x_49) fun v54 =>
  ob (kloadN 4 (J.h r47) all_50) fun v55 =>
  ob (S 231 [v54] (J.h r47)) fun r56 => kres r56 (fun v57 h58 =>
  kre (kloadN 4 h58 all_50) v55 (kre (kload h58 v52) v53 (ob (S 263 [v53, v57, v55] h58) fun r61 => kres r61 (fun v62 h63 =>
  ob (kfa 3 x_49) fun v66 =>
  ob (kload h63 v66) fun v67 =>
  ob (kbinI .eql v67 (.int .i64 (.ofNat 1))) fun v68 =>
  ob (kif v68
   (ob (kfa 5 x_49) fun v70 =>
   ob (kload h63 v70) fun v71 =>
   ob (S 264 [a_48, v71] h63) fun r72 => kres r72 (fun v73 h74 =>
   (some ⟨0, [], (J.ds r47), h74⟩)) (fun p75 h76 => (some ⟨1, [p75], (J.ds r47), h76⟩)))
   ((some ⟨0, [], (J.ds r47), h63⟩))) fun r69 => kcase (J.i r69) [kv0 (J.vs r69) ((dleave (fun h77 => (some (false, (.tuple []), h77))) (J.ds r69) (J.h r69))),
  kv1 (J.vs r69) fun p78 => (kds (J.ds r69) (some (true, p78, (J.h r69))))]) (fun p64 h65 => (kds (J.ds r47) (some (true, p64, h65))))))) (fun p59 h60 => none),
 kv1 (J.vs r47) fun p79 => (kds (J.ds r47) (some (true, p79, (J.h r47))))]) (fun p10 h11 => (some (true, p10, h11))))
theorem F201_ok {S : FS} {D : FD} (hS : SpecsOK Tryz.prog S) (hD : DynOK Tryz.prog D) : SpecOK Tryz.prog 201 (F201 S D) :=
  SpecOK.of (c := match Tryz.f201.body with | some c => c | none => .skip) (by kernel_rfl) hS hD ⟨Tryz.func201, rfl, by decide⟩
    (.seq .n (.seq .n (.seq (.seq .n (.one (.loop [0, 3, 4, 12, 13, 14] [(.exit 0, [0, 3, 4]), (.pan, [])] (.seq .n (.seq (.dup .n .n) (.seq (.one (.seq .n (.seq .n .n))) .n)))))) (.seq .n (.seq .n (.join [(.norm, []), (.pan, [])] (.dup .n .n))))))) 2 (fun args h => by kernel_rfl)
/-- (*roundhouse/agent.Agent).settle -/
noncomputable def F202 (S : FS) (D : FD) (args : List AV) (h : Heap) : Option (Bool × AV × Heap) :=
 kv3 args fun a_1 x_2 tear_3 =>
 knt x_2 (Heap.pushK h (.cells (AV.cells x_2) true 156) fun h4 =>
 ob (kfa 5 (.ptr (Heap.next h) 0)) fun v5 =>
 ob (kload h4 v5) fun v6 =>
 ob (S 257 [a_1, v6] h4) fun r7 => kres r7 (fun v8 h9 =>
 ob (klenL v8) fun v12 =>
 ob (iterD (fun vs13 ds14 h15 => kv7 vs13 fun a_16 tear_17 x_18 codes_19 v20 v21 v22 =>
  ob (kbinI .lss v22 v21) fun v23 =>
  kif v23
   (ob (kia 8 v20 v22) fun v24 =>
   ob (kloadN 8 h15 v24) fun v25 =>
   Heap.pushK h15 (.cells [(.int .i64 (.ofNat 0)), (.int .i64 (.ofNat 0)), (.int .i64 (.ofNat 0)), (.int .i64 (.ofNat 0)), (.int .i64 (.ofNat 0)), AV.nilslice, (.int .i64 (.ofNat 0)), (.int .i64 (.ofNat 0))] true 39) fun h26 =>
   ob (kstore 8 (.ptr (Heap.next h15) 0) v25 h26) fun h27 =>
   ob (kfa 6 (.ptr (Heap.next h15) 0)) fun v28 =>
   ob (kload h27 v28) fun v29 =>
   ob (kbinI .neq v29 (.int .i64 (.ofNat 2))) fun v30 =>
   kif v30
    ((some ⟨2, [AV.nilslice], ds14, h27⟩))
    (ob (kfa 7 (.ptr (Heap.next h15) 0)) fun v31 =>
    ob (kload h27 v31) fun v32 =>
    ob (abuildSlice Tryz.prog 37 1 [(0, v32)]) fun r33 => Heap.pushK h27 (.cells r33.1 true r33.2.2) fun h34 =>
    ob (aappend Tryz.prog h34 37 37 codes_19 (.slice (Heap.next h27) 0 1 1 r33.2.1)) fun r35 =>
    ob (kbinI .add v22 (.int .i64 (.ofNat 1))) fun v36 =>
    (some ⟨0, [a_16, tear_17, x_18, r35.1, v20, v21, v36], ds14, r35.2⟩)))
   ((some ⟨1, [a_16, tear_17, x_18, codes_19], ds14, h15⟩))) rounds [a_1, tear_3, (.ptr (Heap.next h) 0), AV.nilslice, v8, v12, (.int .i64 (.ofNat 0))] [] h9) fun r37 => kcase (J.i r37) [kv4 (J.vs r37) fun a_38 tear_39 x_40 codes_41 =>
  ob (knil a_38) fun v42 =>
  ob (kfa 5 v42) fun v43 =>
  ob (kfa 0 v43) fun v44 =>
  ob (kload (J.h r37) v44) fun v45 =>
  ob (knil a_38) fun v46 =>
  ob (kfa 12 v46) fun v47 =>
  ob (kloadN 3 (J.h r37) v47) fun v48 =>
  ob (kfa 0 x_40) fun v49 =>
  ob (kload (J.h r37) v49) fun v50 =>
  ob (kfa 1 x_40) fun v51 =>
  ob (kload (J.h r37) v51) fun v52 =>
  ob (kfa 2 x_40) fun v53 =>
  ob (kload (J.h r37) v53) fun v54 =>
  ob (abuild Tryz.prog 167 [(1, v50), (2, v52), (3, v54)]) fun v55 =>
  kfree (J.h r37) (Heap.pushK (J.h r37) (.cells [(.bool false), (.int .i64 (.ofNat 0)), (.int .i64 (.ofNat 0)), (.int .i64 (.ofNat 0)), (.int .i64 (.ofNat 0)), (.int .i64 (.ofNat 0)), AV.nilslice, (.bool false), (.int .i64 (.ofNat 0)), (.int .i64 (.ofNat 0)), (.int .i64 (.ofNat 0)), (.int .i64 (.ofNat 0)), (.int .i64 (.ofNat 0)), (.int .i64 (.ofNat 0)), (.int .i64 (.ofNat 0)), (.str 0 0), (.bool false), (.bool false), (.bool false)] true 362) fun h56 =>
  ob (S 265 [v45, v48, v55, codes_41] h56) fun r57 => kres r57 (fun v58 h59 =>
  kro (Heap.next (J.h r37)) h56 h59 (ob (aextract v58 0) fun v62 =>
  ob (aextract v58 1) fun v63 =>
  ob (kstore 19 (.ptr (Heap.next (J.h r37)) 0) v62 h59) fun h64 =>
  ob (kbinI .neq v63 (.int .i64 (.ofNat 0))) fun v65 =>
  ob (kgv false v65 (some a_38)) fun v66 =>
  ob (kgv false v65 (kfa 1 (.ptr (Heap.next (J.h r37)) 0))) fun v67 =>
  ob (kgv false v65 (kloadN 6 h64 v67)) fun v68 =>
  ob (kgv false v65 (some tear_39)) fun v69 =>
  ob (kgc false v65 h64 (S 252 [v66, v68, v69] h64)) fun r70 => kres r70 (fun v71 h72 =>
  ob (kgv false v65 (aun .not v71)) fun v75 =>
  ob (kpick v65 (.bool true) v75) fun v76 =>
  kif v76
   ((dleave (fun h77 => (some (false, AV.nilslice, h77))) (J.ds r37) h72))
   (ob (kfa 5 x_40) fun v78 =>
   ob (kload h72 v78) fun v79 =>
   ob (S 260 [a_38, v79] h72) fun r80 => kres r80 (fun v81 h82 =>
   ob (knil a_38) fun v85 =>
   ob (kfa 15 v85) fun v86 =>
   ob (kload h82 v86) fun v87 =>
   ob (kloadN 6 h82 x_40) fun v88 =>
   ob (S 231 [v88] h82) fun r89 => kres r89 (fun v90 h91 =>
   kre (kload h91 v86) v87 (ob (S 266 [v87, v90] h91) fun r94 => kres r94 (fun v95 h96 =>
   ob (kloadN 19 h96 (.ptr (Heap.next (J.h r37)) 0)) fun v99 =>
   ob (S 254 [v99] h96) fun r100 => kres r100 (fun v101 h102 =>
   (dleave (fun h105 => (some (false, v101, h105))) (J.ds r37) h102)) (fun p103 h104 => (kds (J.ds r37) (some (true, p103, h104))))) (fun p97 h98 => (kds (J.ds r37) (some (true, p97, h98)))))) (fun p92 h93 => none)) (fun p83 h84 => (kds (J.ds r37) (some (true, p83, h84)))))) (fun p73 h74 => (kds (J.ds r37) (some (true, p73, h74)))))) (fun p60 h61 => none)),
 kv1 (J.vs r37) fun v106 =>
  (dleave (fun h107 => (some (false, v106, h107))) (J.ds r37) (J.h r37))]) (fun p10 h11 => (some (true, p10, h11))))
theorem F202_ok {S : FS} {D : FD} (hS : SpecsOK Tryz.prog S) (hD : DynOK Tryz.prog D) : SpecOK Tryz.prog 202 (F202 S D) :=
  SpecOK.of (c := match Tryz.f202.body with | some c => c | none => .skip) (by kernel_rfl) hS hD ⟨Tryz.func202, rfl, by decide⟩
    (.seq .n (.seq .n (.seq (.seq .n (.one (.loop [0, 2, 4, 7, 15, 16, 17] [(.exit 0, [0, 2, 4, 7]), (.ret, [6])] (.seq .n (.seq (.dup .n .n) (.seq (.one (.seq .n (.seq (.seq .n (.dup (.seq .n .n) .n)) .n))) .n)))))) (.seq .n (.seq (.seq .n (.dup (.seq .n .n) .n)) (.seq .n (.seq .n (.seq .n .n)))))))) 3 (fun args h => by kernel_rfl)
/-- (*roundhouse/ctl.job).look -/
noncomputable def F204 (S : FS) (D : FD) (args : List AV) (h : Heap) : Option (Bool × AV × Heap) :=
 kv1 args fun x_1 =>
 ob (knil x_1) fun v2 =>
 ob (kfa 8 v2) fun v3 =>
 ob (kload h v3) fun v4 =>
 ob (klenL v4) fun v5 =>
 ob (iterD (fun vs6 ds7 h8 => kv4 vs6 fun x_9 v10 v11 v12 =>
  ob (kbinI .lss v12 v11) fun v13 =>
  kif v13
   (ob (kia 1 v10 v12) fun v14 =>
   ob (kload h8 v14) fun v15 =>
   ob (knil x_9) fun v16 =>
   ob (kfa 7 v16) fun v17 =>
   ob (kload h8 v17) fun v18 =>
   ob (kia 1 v18 v12) fun v19 =>
   ob (kload h8 v19) fun v20 =>
   ob (kbinI .neq v20 (.int .i64 (.negSucc 0))) fun v21 =>
   ob (kif v21
    ((some ⟨0, [x_9, v10, v11, v12], ds7, h8⟩))
    (ob (kbinO Tryz.prog .eql 119 true v15 AV.nilptr) fun v23 =>
    ob (kgv true v23 (some x_9)) fun v24 =>
    ob (kgv true v23 (knil v24)) fun v25 =>
    ob (kgv true v23 (kfa 11 v25)) fun v26 =>
    ob (kgv true v23 (kload h8 v26)) fun v27 =>
    ob (kpick v23 v27 (.bool false)) fun v28 =>
    ob (kif v28
     (ob (knil x_9) fun v30 =>
     ob (kfa 7 v30) fun v31 =>
     ob (kload h8 v31) fun v32 =>
     ob (kia 1 v32 v12) fun v33 =>
     ob (kstore 1 v33 (.int .i64 (.ofNat 256)) h8) fun h34 =>
     (some ⟨0, [x_9, v10, v11, v12], ds7, h34⟩))
     (ob (kbinO Tryz.prog .eql 119 true v15 AV.nilptr) fun v35 =>
     ob (kif v35
      ((some ⟨0, [x_9, v10, v11, v12], ds7, h8⟩))
      (ob (S 41 [v15] h8) fun r37 => kres r37 (fun v38 h39 =>
      ob (kbinI .eql v38 (.int .i64 (.ofNat 2))) fun v42 =>
      ob (kif v42
       (ob (knil x_9) fun v44 =>
       ob (kfa 7 v44) fun v45 =>
       ob (kload h39 v45) fun v46 =>
       ob (kia 1 v46 v12) fun v47 =>
       ob (kstore 1 v47 (.int .i64 (.ofNat 255)) h39) fun h48 =>
       (some ⟨0, [x_9, v10, v11, v12], ds7, h48⟩))
       (ob (S 41 [v15] h39) fun r49 => kres r49 (fun v50 h51 =>
       ob (kbinI .eql v50 (.int .i64 (.ofNat 3))) fun v54 =>
       ob (kif v54
        (ob (knil x_9) fun v56 =>
        ob (kfa 7 v56) fun v57 =>
        ob (kload h51 v57) fun v58 =>
        ob (S 268 [v15] h51) fun r59 => kres r59 (fun v60 h61 =>
        kre (kload h61 v57) v58 (ob (kia 1 v58 v12) fun v64 =>
        ob (kstore 1 v64 v60 h61) fun h65 =>
        (some ⟨0, [x_9, v10, v11, v12], ds7, h65⟩))) (fun p62 h63 => none))
        ((some ⟨0, [x_9, v10, v11, v12], ds7, h51⟩))) fun r55 => kcase (J.i r55) [kv4 (J.vs r55) fun x_66 v67 v68 v69 =>
        (some ⟨0, [x_66, v67, v68, v69], (J.ds r55), (J.h r55)⟩),
       kv1 (J.vs r55) fun p70 => (some ⟨1, [p70], (J.ds r55), (J.h r55)⟩)]) (fun p52 h53 => (some ⟨1, [p52], ds7, h53⟩)))) fun r43 => kcase (J.i r43) [kv4 (J.vs r43) fun x_71 v72 v73 v74 =>
       (some ⟨0, [x_71, v72, v73, v74], (J.ds r43), (J.h r43)⟩),
      kv1 (J.vs r43) fun p75 => (some ⟨1, [p75], (J.ds r43), (J.h r43)⟩)]) (fun p40 h41 => (some ⟨1, [p40], ds7, h41⟩)))) fun r36 => kcase (J.i r36) [kv4 (J.vs r36) fun x_76 v77 v78 v79 =>
      (some ⟨0, [x_76, v77, v78, v79], (J.ds r36), (J.h r36)⟩),
     kv1 (J.vs r36) fun p80 => (some ⟨1, [p80], (J.ds r36), (J.h r36)⟩)])) fun r29 => kcase (J.i r29) [kv4 (J.vs r29) fun x_81 v82 v83 v84 =>
     (some ⟨0, [x_81, v82, v83, v84], (J.ds r29), (J.h r29)⟩),
    kv1 (J.vs r29) fun p85 => (some ⟨1, [p85], (J.ds r29), (J.h r29)⟩)])) fun r22 => kcase (J.i r22) [kv4 (J.vs r22) fun x_86 v87 v88 v89 =>
    ob (kbinI .add v89 (.int .i64 (.ofNat 1))) fun v90 =>
    (some ⟨0, [x_86, v87, v88, v90], (J.ds r22), (J.h r22)⟩),
   kv1 (J.vs r22) fun p91 => (some ⟨2, [p91], (J.ds r22), (J.h r22)⟩)])
   ((some ⟨1, [x_9], ds7, h8⟩))) rounds [x_1, v4, v5, (.int .i64 (.ofNat 0))] [] h) fun r92 => kcase (J.i r92) [kv1 (J.vs r92) fun x_93 =>
  ob (knil x_93) fun v94 =>
  ob (kfa 0 v94) fun v95 =>
  ob (kfa 1 v95) fun v96 =>
  ob (kload (J.h r92) v96) fun v97 =>
  ob (knil x_93) fun v98 =>
  ob (kfa 7 v98) fun v99 =>
  ob (kload (J.h r92) v99) fun v100 =>
  ob (S 269 [v97, v100] (J.h r92)) fun r101 => kres r101 (fun v102 h103 =>
  ob (aextract v102 0) fun v106 =>
  ob (aextract v102 1) fun v107 =>
  ob (knil x_93) fun v108 =>
  ob (kfa 7 v108) fun v109 =>
  ob (kstore 1 v109 v106 h103) fun h110 =>
  ob (knil x_93) fun v111 =>
  ob (kfa 0 v111) fun v112 =>
  ob (kfa 1 v112) fun v113 =>
  ob (kload h110 v113) fun v114 =>
  ob (knil x_93) fun v115 =>
  ob (kfa 7 v115) fun v116 =>
  ob (kload h110 v116) fun v117 =>
  ob (S 270 [v114, v117] h110) fun r118 => kres r118 (fun v119 h120 =>
  ob (aextract v119 0) fun v123 =>
  ob (aextract v119 1) fun v124 =>
  ob (klenL v123) fun v125 =>
  ob (iterD (fun vs126 ds127 h128 => kv4 vs126 fun x_129 v130 v131 v132 =>
   ob (kbinI .lss v132 v131) fun v133 =>
   kif v133
    (ob (kia 1 v130 v132) fun v134 =>
    ob (kload h128 v134) fun v135 =>
    ob (knil x_129) fun v136 =>
    ob (kfa 8 v136) fun v137 =>
    ob (kload h128 v137) fun v138 =>
    ob (kia 1 v138 v135) fun v139 =>
    ob (kload h128 v139) fun v140 =>
    ob (kbinO Tryz.prog .eql 119 true v140 AV.nilptr) fun v141 =>
    ob (kif v141
     (ob (knil x_129) fun v143 =>
     ob (kfa 8 v143) fun v144 =>
     ob (kload h128 v144) fun v145 =>
     ob (knil x_129) fun v146 =>
     ob (kfa 0 v146) fun v147 =>
     ob (kfa 0 v147) fun v148 =>
     ob (kload h128 v148) fun v149 =>
     ob (S 227 [v149] h128) fun r150 => kres r150 (fun v151 h152 =>
     kre (kload h152 v144) v145 (ob (kia 1 v145 v135) fun v155 =>
     ob (kstore 1 v155 v151 h152) fun h156 =>
     (some ⟨0, [x_129, v130, v131, v132], ds127, h156⟩))) (fun p153 h154 => none))
     ((some ⟨0, [x_129, v130, v131, v132], ds127, h128⟩))) fun r142 => kcase (J.i r142) [kv4 (J.vs r142) fun x_157 v158 v159 v160 =>
     ob (kbinI .add v160 (.int .i64 (.ofNat 1))) fun v161 =>
     (some ⟨0, [x_157, v158, v159, v161], (J.ds r142), (J.h r142)⟩),
    kv1 (J.vs r142) fun p162 => (some ⟨2, [p162], (J.ds r142), (J.h r142)⟩)])
    ((some ⟨1, [x_129], ds127, h128⟩))) rounds [x_93, v123, v125, (.int .i64 (.ofNat 0))] (J.ds r92) h120) fun r163 => kcase (J.i r163) [kv1 (J.vs r163) fun x_164 =>
   ob (knil x_164) fun v165 =>
   ob (kfa 0 v165) fun v166 =>
   ob (kfa 1 v166) fun v167 =>
   ob (kload (J.h r163) v167) fun v168 =>
   ob (knil x_164) fun v169 =>
   ob (kfa 7 v169) fun v170 =>
   ob (kload (J.h r163) v170) fun v171 =>
   ob (S 271 [v168, v171] (J.h r163)) fun r172 => kres r172 (fun v173 h174 =>
   ob (aextract v173 0) fun v177 =>
   ob (aextract v173 1) fun v178 =>
   ob (aun .not v178) fun v179 =>
   ob (kif v179
    ((some ⟨0, [], (J.ds r163), h174⟩))
    (ob (knil x_164) fun v181 =>
    ob (kfa 11 v181) fun v182 =>
    ob (kload h174 v182) fun v183 =>
    ob (kgv false v183 (some v177)) fun v184 =>
    ob (kgv false v183 (kbinI .neq v184 (.int .i64 (.ofNat 0)))) fun v185 =>
    ob (kpick v183 (.bool true) v185) fun v186 =>
    ob (kif v186
     (ob (S 272 [x_164, (.int .i64 (.ofNat 1)), v177] h174) fun r188 => kres r188 (fun v189 h190 =>
     (some ⟨0, [], (J.ds r163), h190⟩)) (fun p191 h192 => (some ⟨1, [p191], (J.ds r163), h192⟩)))
     (ob (S 272 [x_164, (.int .i64 (.ofNat 0)), (.int .i64 (.ofNat 0))] h174) fun r193 => kres r193 (fun v194 h195 =>
     (some ⟨0, [], (J.ds r163), h195⟩)) (fun p196 h197 => (some ⟨1, [p196], (J.ds r163), h197⟩)))) fun r187 => kcase (J.i r187) [kv0 (J.vs r187) ((some ⟨0, [], (J.ds r187), (J.h r187)⟩)),
    kv1 (J.vs r187) fun p198 => (some ⟨1, [p198], (J.ds r187), (J.h r187)⟩)])) fun r180 => kcase (J.i r180) [kv0 (J.vs r180) ((dleave (fun h199 => (some (false, (.tuple []), h199))) (J.ds r180) (J.h r180))),
   kv1 (J.vs r180) fun p200 => (kds (J.ds r180) (some (true, p200, (J.h r180))))]) (fun p175 h176 => (kds (J.ds r163) (some (true, p175, h176)))),
  kv1 (J.vs r163) fun p201 => (kds (J.ds r163) (some (true, p201, (J.h r163))))]) (fun p121 h122 => (kds (J.ds r92) (some (true, p121, h122))))) (fun p104 h105 => none),
 kv1 (J.vs r92) fun p202 => (kds (J.ds r92) (some (true, p202, (J.h r92))))]
theorem F204_ok {S : FS} {D : FD} (hS : SpecsOK Tryz.prog S) (hD : DynOK Tryz.prog D) : SpecOK Tryz.prog 204 (F204 S D) :=
  SpecOK.of (c := match Tryz.f204.body with | some c => c | none => .skip) (by kernel_rfl) hS hD ⟨Tryz.func204, rfl, by decide⟩
    (.seq (.seq .n (.one (.loop [0, 13, 14, 15] [(.exit 0, [0]), (.pan, [])] (.seq .n (.seq (.dup .n .n) (.seq (.one (.seq .n (.one (.seq .n (.join [(.norm, [0, 13, 14, 15]), (.pan, [])] (.dup .n (.seq .n (.join [(.norm, [0, 13, 14, 15]), (.pan, [])] (.dup .n (.seq .n (.join [(.norm, [0, 13, 14, 15]), (.pan, [])] (.dup .n (.seq .n (.join [(.norm, [0, 13, 14, 15]), (.pan, [])] (.dup .n (.seq .n (.join [(.norm, [0, 13, 14, 15]), (.pan, [])] (.dup .n .n)))))))))))))))))) .n)))))) (.seq .n (.seq .n (.seq (.seq .n (.one (.loop [0, 99, 100, 101] [(.exit 3, [0]), (.pan, [])] (.seq .n (.seq (.dup .n .n) (.seq (.one (.seq .n (.seq .n (.join [(.norm, [0, 99, 100, 101]), (.pan, [])] (.dup .n .n))))) .n)))))) (.seq .n (.one (.seq .n (.join [(.norm, []), (.pan, [])] (.dup .n (.seq .n (.join [(.norm, []), (.pan, [])] (.dup .n .n)))))))))))) 1 (fun args h => by kernel_rfl)
/-- (roundhouse/mask.Mask).with -/
noncomputable def F205 (S : FS) (D : FD) (args : List AV) (h : Heap) : Option (Bool × AV × Heap) :=
 kv2 args fun m_1 c_2 =>
 knt m_1 (Heap.pushK h (.cells (AV.cells m_1) true 98) fun h3 =>
 Heap.pushK h3 (.cells [(.int .u64 (.ofNat 0)), (.int .u64 (.ofNat 0)), (.int .u64 (.ofNat 0)), (.int .u64 (.ofNat 0))] true 98) fun h4 =>
 ob (kbinI .quo c_2 (.int .i64 (.ofNat 64))) fun v5 =>
 ob (kiaA 4 1 (.ptr (Heap.next h) 0) v5) fun v6 =>
 ob (kload h4 v6) fun v7 =>
 ob (kbinI .rem c_2 (.int .i64 (.ofNat 64))) fun v8 =>
 ob (kbinI .shl (.int .u64 (.ofNat 1)) v8) fun v9 =>
 ob (kbinI .or v7 v9) fun v10 =>
 ob (kiaA 4 1 (.ptr (Heap.next h) 0) v5) fun v11 =>
 ob (kstore 1 v11 v10 h4) fun h12 =>
 ob (kloadN 4 h12 (.ptr (Heap.next h) 0)) fun v13 =>
 ob (kstore 4 (.ptr (Heap.next h3) 0) v13 h12) fun h14 =>
 ob (kloadN 4 h14 (.ptr (Heap.next h3) 0)) fun v15 => (some (false, v15, h14)))
theorem F205_ok {S : FS} {D : FD} (hS : SpecsOK Tryz.prog S) (hD : DynOK Tryz.prog D) : SpecOK Tryz.prog 205 (F205 S D) :=
  SpecOK.of (c := match Tryz.f205.body with | some c => c | none => .skip) (by kernel_rfl) hS hD ⟨Tryz.func205, rfl, by decide⟩
    (.seq .n (.seq .n (.seq .n .n))) 2 (fun args h => by kernel_rfl)
/-- roundhouse/journal.kindMay -/
noncomputable def F206 (S : FS) (D : FD) (args : List AV) (h : Heap) : Option (Bool × AV × Heap) :=
 kv1 args fun kind_1 =>
 ob (kbinI .eql kind_1 (.int .i64 (.ofNat 0))) fun v2 =>
 ob (kgv false v2 (some kind_1)) fun v3 =>
 ob (kgv false v2 (kbinI .eql v3 (.int .i64 (.ofNat 1)))) fun v4 =>
 ob (kpick v2 (.bool true) v4) fun v5 =>
 (some (false, v5, h))
theorem F206_ok {S : FS} {D : FD} (hS : SpecsOK Tryz.prog S) (hD : DynOK Tryz.prog D) : SpecOK Tryz.prog 206 (F206 S D) :=
  SpecOK.of (c := match Tryz.f206.body with | some c => c | none => .skip) (by kernel_rfl) hS hD ⟨Tryz.func206, rfl, by decide⟩
    (.seq .n (.seq .n .n)) 1 (fun args h => by kernel_rfl)
/-- (*roundhouse/wire.Reader).Text -/
noncomputable def F207 (S : FS) (D : FD) (args : List AV) (h : Heap) : Option (Bool × AV × Heap) :=
 kv1 args fun r_1 =>
 knt r_1 (Heap.pushK h (.cells (AV.cells r_1) true 210) fun h2 =>
 Heap.pushK h2 (.cells [(.str 0 0)] true 9) fun h3 =>
 ob (kstore 1 (.ptr (Heap.next h2) 0) (.str 0 0) h3) fun h4 =>
 ob (kload h4 (.ptr (Heap.next h) 0)) fun v5 =>
 ob (S 150 [v5, (.func 273 [(.ptr (Heap.next h) 0), (.ptr (Heap.next h2) 0)])] h4) fun r6 => kres r6 (fun v7 h8 =>
 ob (kload h8 (.ptr (Heap.next h2) 0)) fun v11 =>
 (some (false, v11, h8))) (fun p9 h10 => (some (true, p9, h10))))
theorem F207_ok {S : FS} {D : FD} (hS : SpecsOK Tryz.prog S) (hD : DynOK Tryz.prog D) : SpecOK Tryz.prog 207 (F207 S D) :=
  SpecOK.of (c := match Tryz.f207.body with | some c => c | none => .skip) (by kernel_rfl) hS hD ⟨Tryz.func207, rfl, by decide⟩
    (.seq .n (.seq .n (.seq .n (.seq .n .n)))) 1 (fun args h => by kernel_rfl)
/-- roundhouse/journal.Record -/
noncomputable def F208 (S : FS) (D : FD) (args : List AV) (h : Heap) : Option (Bool × AV × Heap) :=
 kv2 args fun kind_1 s_2 =>
 ob (S 206 [kind_1] h) fun r3 => kres r3 (fun v4 h5 =>
 ob (aun .not v4) fun v8 =>
 ob (kgv false v8 (some s_2)) fun v9 =>
 ob (kgv false v8 (klenS v9)) fun v10 =>
 ob (kgv false v8 (kbinI .gtr v10 (.int .i64 (.ofNat 4096)))) fun v11 =>
 ob (kpick v8 (.bool true) v11) fun v12 =>
 kif v12
  ((some (false, (.str 0 0), h5)))
  (ob (kconvI .u8 kind_1) fun v13 =>
  kfree h5 (ob (abuildSlice Tryz.prog 345 2 [(0, (.int .u8 (.ofNat 74))), (1, v13)]) fun r14 => Heap.pushK h5 (.cells r14.1 true r14.2.2) fun h15 =>
  ob (kbytes h15 (.slice (Heap.next h5) 0 2 2 r14.2.1)) fun v16 =>
  ob (S 243 [s_2] h15) fun r17 => kres r17 (fun v18 h19 =>
  kre (kbytes h19 (.slice (Heap.next h5) 0 2 2 r14.2.1)) v16 (kro (Heap.next h5) h15 h19 (ob (kbinS .add v16 v18) fun v22 =>
  ob (S 274 [v22] h19) fun r23 => kres r23 (fun v24 h25 =>
  ob (aslice Tryz.prog 9 v24 none (some (.int .i64 (.ofNat 4))) none) fun v28 =>
  ob (kbinS .add v22 v28) fun v29 =>
  (some (false, v29, h25))) (fun p26 h27 => (some (true, p26, h27)))))) (fun p20 h21 => none)))) (fun p6 h7 => (some (true, p6, h7)))
theorem F208_ok {S : FS} {D : FD} (hS : SpecsOK Tryz.prog S) (hD : DynOK Tryz.prog D) : SpecOK Tryz.prog 208 (F208 S D) :=
  SpecOK.of (c := match Tryz.f208.body with | some c => c | none => .skip) (by kernel_rfl) hS hD ⟨Tryz.func208, rfl, by decide⟩
    (.seq .n (.seq (.seq .n (.dup (.seq .n .n) .n)) (.seq .n (.seq .n .n)))) 2 (fun args h => by kernel_rfl)
/-- (*roundhouse/wire.Reader).bytes -/
noncomputable def F210 (S : FS) (D : FD) (args : List AV) (h : Heap) : Option (Bool × AV × Heap) :=
 kv3 args fun r_1 n_2 from_3 =>
 ob (knil r_1) fun v4 =>
 ob (kfa 0 v4) fun v5 =>
 ob (kload h v5) fun v6 =>
 ob (klenS v6) fun v7 =>
 ob (knil r_1) fun v8 =>
 ob (kfa 1 v8) fun v9 =>
 ob (kload h v9) fun v10 =>
 ob (kbinI .sub v7 v10) fun v11 =>
 ob (kbinI .leq n_2 v11) fun v12 =>
 ob (S 211 [v12, from_3, (.int .i64 (.ofNat 2))] h) fun r13 => kres r13 (fun v14 h15 =>
 ob (knil r_1) fun v18 =>
 ob (kfa 0 v18) fun v19 =>
 ob (kload h15 v19) fun v20 =>
 ob (knil r_1) fun v21 =>
 ob (kfa 1 v21) fun v22 =>
 ob (kload h15 v22) fun v23 =>
 ob (knil r_1) fun v24 =>
 ob (kfa 1 v24) fun v25 =>
 ob (kload h15 v25) fun v26 =>
 ob (kbinI .add v26 n_2) fun v27 =>
 ob (aslice Tryz.prog 9 v20 (some v23) (some v27) none) fun v28 =>
 ob (knil r_1) fun v29 =>
 ob (kfa 1 v29) fun v30 =>
 ob (kload h15 v30) fun v31 =>
 ob (kbinI .add v31 n_2) fun v32 =>
 ob (knil r_1) fun v33 =>
 ob (kfa 1 v33) fun v34 =>
 ob (kstore 1 v34 v32 h15) fun h35 =>
 (some (false, v28, h35))) (fun p16 h17 => (some (true, p16, h17)))
theorem F210_ok {S : FS} {D : FD} (hS : SpecsOK Tryz.prog S) (hD : DynOK Tryz.prog D) : SpecOK Tryz.prog 210 (F210 S D) :=
  SpecOK.of (c := match Tryz.f210.body with | some c => c | none => .skip) (by kernel_rfl) hS hD ⟨Tryz.func210, rfl, by decide⟩
    (.seq .n (.seq .n (.seq .n (.seq .n (.seq .n .n))))) 3 (fun args h => by kernel_rfl)
/-- roundhouse/wire.must -/
noncomputable def F211 (S : FS) (D : FD) (args : List AV) (h : Heap) : Option (Bool × AV × Heap) :=
 kv3 args fun holds_1 at_2 e_3 =>
 ob (aun .not holds_1) fun v4 =>
 kif v4
  (ob (abuild Tryz.prog 318 [(0, at_2), (1, e_3)]) fun v5 =>
  kpan (.iface 318 v5) fun p6 => (some (true, p6, h)))
  ((some (false, (.tuple []), h)))
theorem F211_ok {S : FS} {D : FD} (hS : SpecsOK Tryz.prog S) (hD : DynOK Tryz.prog D) : SpecOK Tryz.prog 211 (F211 S D) :=
  SpecOK.of (c := match Tryz.f211.body with | some c => c | none => .skip) (by kernel_rfl) hS hD ⟨Tryz.func211, rfl, by decide⟩
    (.seq .n (.dup .n .n)) 3 (fun args h => by kernel_rfl)
/-- roundhouse/wire.may -/
noncomputable def F212 (S : FS) (D : FD) (args : List AV) (h : Heap) : Option (Bool × AV × Heap) :=
 kv1 args fun n_1 =>
 ob (kbinI .geq n_1 (.int .i64 (.ofNat 0))) fun v2 =>
 ob (kgv true v2 (some n_1)) fun v3 =>
 ob (kgv true v2 (kbinI .leq v3 (.int .i64 (.ofNat 1099511627776)))) fun v4 =>
 ob (kpick v2 v4 (.bool false)) fun v5 =>
 (some (false, v5, h))
theorem F212_ok {S : FS} {D : FD} (hS : SpecsOK Tryz.prog S) (hD : DynOK Tryz.prog D) : SpecOK Tryz.prog 212 (F212 S D) :=
  SpecOK.of (c := match Tryz.f212.body with | some c => c | none => .skip) (by kernel_rfl) hS hD ⟨Tryz.func212, rfl, by decide⟩
    (.seq .n (.seq .n .n)) 1 (fun args h => by kernel_rfl)
/-- roundhouse/rec.prolog -/
noncomputable def F213 (S : FS) (D : FD) (args : List AV) (h : Heap) : Option (Bool × AV × Heap) :=
 kv2 args fun s_1 r_2 =>
 knt r_2 (Heap.pushK h (.cells (AV.cells r_2) true 167) fun h3 =>
 ob (knil s_1) fun v4 =>
 ob (kloadN 3 h3 v4) fun v5 =>
 ob (kloadN 6 h3 (.ptr (Heap.next h) 0)) fun v6 =>
 ob (S 275 [v5, v6] h3) fun r7 => kres r7 (fun v8 h9 =>
 kif v8
  ((some (false, (.int .i64 (.ofNat 14)), h9)))
  (ob (knil s_1) fun v12 =>
  ob (kfa 2 v12) fun v13 =>
  ob (kload h9 v13) fun v14 =>
  kif v14
   ((some (false, (.int .i64 (.ofNat 16)), h9)))
   (ob (kfa 1 (.ptr (Heap.next h) 0)) fun v15 =>
   ob (kload h9 v15) fun v16 =>
   ob (kfa 2 (.ptr (Heap.next h) 0)) fun v17 =>
   ob (kload h9 v17) fun v18 =>
   ob (abuild Tryz.prog 153 [(0, v16), (1, v18), (2, (.int .i64 (.ofNat 0)))]) fun v19 =>
   Heap.pushK h9 (.cells [(.int .i64 (.ofNat 0)), (.int .i64 (.ofNat 0)), (.int .i64 (.ofNat 0))] true 153) fun h20 =>
   ob (kstore 3 (.ptr (Heap.next h9) 0) v19 h20) fun h21 =>
   ob (kfa 4 (.ptr (Heap.next h) 0)) fun v22 =>
   ob (kload h21 v22) fun v23 =>
   ob (kbinI .neq v23 (.int .i64 (.ofNat 0))) fun v24 =>
   ob (kif v24
    (ob (kfa 2 (.ptr (Heap.next h9) 0)) fun v26 =>
    ob (kstore 1 v26 (.int .i64 (.ofNat 1)) h21) fun h27 =>
    ob (knil s_1) fun v28 =>
    ob (kfa 2 v28) fun v29 =>
    ob (kstore 1 v29 (.bool true) h27) fun h30 =>
    (some ⟨0, [s_1, (.ptr (Heap.next h9) 0)], [], h30⟩))
    ((some ⟨0, [s_1, (.ptr (Heap.next h9) 0)], [], h21⟩))) fun r25 => kcase (J.i r25) [kv2 (J.vs r25) fun s_31 x_32 =>
    ob (knil s_31) fun v33 =>
    ob (kfa 0 v33) fun v34 =>
    ob (kload (J.h r25) v34) fun v35 =>
    ob (kloadN 3 (J.h r25) x_32) fun v36 =>
    kfree (J.h r25) (ob (abuildSlice Tryz.prog 82 1 [(0, v36)]) fun r37 => Heap.pushK (J.h r25) (.cells r37.1 true r37.2.2) fun h38 =>
    ob (aappend Tryz.prog h38 82 82 v35 (.slice (Heap.next (J.h r25)) 0 1 1 r37.2.1)) fun r39 =>
    ob (knil s_31) fun v40 =>
    ob (kfa 0 v40) fun v41 =>
    ob (kstore 1 v41 r39.1 r39.2) fun h42 =>
    (dleave (fun h43 => (some (false, (.int .i64 (.ofNat 0)), h43))) (J.ds r25) h42))]))) (fun p10 h11 => (some (true, p10, h11))))
theorem F213_ok {S : FS} {D : FD} (hS : SpecsOK Tryz.prog S) (hD : DynOK Tryz.prog D) : SpecOK Tryz.prog 213 (F213 S D) :=
  SpecOK.of (c := match Tryz.f213.body with | some c => c | none => .skip) (by kernel_rfl) hS hD ⟨Tryz.func213, rfl, by decide⟩
    (.seq .n (.seq (.one (.seq .n (.dup (.seq .n .n) (.seq .n (.dup (.seq .n .n) .n))))) (.seq .n (.seq (.seq .n (.join [(.norm, [0, 5])] (.dup .n .n))) (.seq .n (.seq .n .n)))))) 2 (fun args h => by kernel_rfl)
/-- roundhouse/rec.begins -/
noncomputable def F214 (S : FS) (D : FD) (args : List AV) (h : Heap) : Option (Bool × AV × Heap) :=
 kv1 args fun phase_1 =>
 knt phase_1 (Heap.pushK h (.cells (AV.cells phase_1) true 3) fun h2 =>
 Heap.pushK h2 (.cells [AV.nilfunc] true 261) fun h3 =>
 ob (abuild Tryz.prog 261 [(0, (.func 276 [(.ptr (Heap.next h) 0)]))]) fun v4 =>
 ob (kstore 1 (.ptr (Heap.next h2) 0) v4 h3) fun h5 =>
 ob (kloadN 1 h5 (.ptr (Heap.next h2) 0)) fun v6 => (some (false, v6, h5)))
theorem F214_ok {S : FS} {D : FD} (hS : SpecsOK Tryz.prog S) (hD : DynOK Tryz.prog D) : SpecOK Tryz.prog 214 (F214 S D) :=
  SpecOK.of (c := match Tryz.f214.body with | some c => c | none => .skip) (by kernel_rfl) hS hD ⟨Tryz.func214, rfl, by decide⟩
    (.seq .n (.seq .n .n)) 1 (fun args h => by kernel_rfl)
/-- roundhouse/rec.turns -/
noncomputable def F215 (S : FS) (D : FD) (args : List AV) (h : Heap) : Option (Bool × AV × Heap) :=
 kv2 args fun from_1 to_2 =>
 knt from_1 (Heap.pushK h (.cells (AV.cells from_1) true 3) fun h3 =>
 knt to_2 (Heap.pushK h3 (.cells (AV.cells to_2) true 3) fun h4 =>
 Heap.pushK h4 (.cells [AV.nilfunc] true 261) fun h5 =>
 ob (abuild Tryz.prog 261 [(0, (.func 282 [(.ptr (Heap.next h) 0), (.ptr (Heap.next h3) 0)]))]) fun v6 =>
 ob (kstore 1 (.ptr (Heap.next h4) 0) v6 h5) fun h7 =>
 ob (kloadN 1 h7 (.ptr (Heap.next h4) 0)) fun v8 => (some (false, v8, h7))))
theorem F215_ok {S : FS} {D : FD} (hS : SpecsOK Tryz.prog S) (hD : DynOK Tryz.prog D) : SpecOK Tryz.prog 215 (F215 S D) :=
  SpecOK.of (c := match Tryz.f215.body with | some c => c | none => .skip) (by kernel_rfl) hS hD ⟨Tryz.func215, rfl, by decide⟩
    (.seq .n (.seq .n .n)) 2 (fun args h => by kernel_rfl)
/-- roundhouse/rec.epilog -/
noncomputable def F216 (S : FS) (D : FD) (args : List AV) (h : Heap) : Option (Bool × AV × Heap) :=
 kv2 args fun s_1 r_2 =>
 knt r_2 (Heap.pushK h (.cells (AV.cells r_2) true 167) fun h3 =>
 ob (knil s_1) fun v4 =>
 ob (kloadN 3 h3 v4) fun v5 =>
 ob (kfa 1 (.ptr (Heap.next h) 0)) fun v6 =>
 ob (kload h3 v6) fun v7 =>
 ob (kfa 2 (.ptr (Heap.next h) 0)) fun v8 =>
 ob (kload h3 v8) fun v9 =>
 ob (S 283 [v5, v7, v9] h3) fun r10 => kres r10 (fun v11 h12 =>
 ob (kbinI .lss v11 (.int .i64 (.ofNat 0))) fun v15 =>
 ob (kgv false v15 (some s_1)) fun v16 =>
 ob (kgv false v15 (knil v16)) fun v17 =>
 ob (kgv false v15 (kfa 0 v17)) fun v18 =>
 ob (kgv false v15 (kload h12 v18)) fun v19 =>
 ob (kgv false v15 (some v11)) fun v20 =>
 ob (kgv false v15 (kia 3 v19 v20)) fun v21 =>
 ob (kgv false v15 (kfa 2 v21)) fun v22 =>
 ob (kgv false v15 (kload h12 v22)) fun v23 =>
 ob (kgv false v15 (kbinI .eql v23 (.int .i64 (.ofNat 2)))) fun v24 =>
 ob (kpick v15 (.bool true) v24) fun v25 =>
 ob (kgv false v25 (some s_1)) fun v26 =>
 ob (kgv false v25 (knil v26)) fun v27 =>
 ob (kgv false v25 (kloadN 3 h12 v27)) fun v28 =>
 ob (kgv false v25 (kfa 1 (.ptr (Heap.next h) 0))) fun v29 =>
 ob (kgv false v25 (kload h12 v29)) fun v30 =>
 ob (kgv false v25 (kfa 2 (.ptr (Heap.next h) 0))) fun v31 =>
 ob (kgv false v25 (kload h12 v31)) fun v32 =>
 ob (kgc false v25 h12 (S 284 [v28, v30, v32] h12)) fun r33 => kres r33 (fun v34 h35 =>
 ob (kpick v25 (.bool true) v34) fun v38 =>
 kif v38
  ((some (false, (.int .i64 (.ofNat 14)), h35)))
  (ob (knil s_1) fun v39 =>
  ob (kfa 0 v39) fun v40 =>
  ob (kload h35 v40) fun v41 =>
  ob (kia 3 v41 v11) fun v42 =>
  ob (kfa 2 v42) fun v43 =>
  ob (kstore 1 v43 (.int .i64 (.ofNat 2)) h35) fun h44 =>
  ob (knil s_1) fun v45 =>
  ob (kfa 2 v45) fun v46 =>
  ob (kload h44 v46) fun v47 =>
  ob (kgv false v47 (kfa 4 (.ptr (Heap.next h) 0))) fun v48 =>
  ob (kgv false v47 (kload h44 v48)) fun v49 =>
  ob (kgv false v47 (kbinI .neq v49 (.int .i64 (.ofNat 0)))) fun v50 =>
  ob (kpick v47 (.bool true) v50) fun v51 =>
  ob (knil s_1) fun v52 =>
  ob (kfa 2 v52) fun v53 =>
  ob (kstore 1 v53 v51 h44) fun h54 =>
  (some (false, (.int .i64 (.ofNat 0)), h54)))) (fun p36 h37 => (some (true, p36, h37)))) (fun p13 h14 => (some (true, p13, h14))))
theorem F216_ok {S : FS} {D : FD} (hS : SpecsOK Tryz.prog S) (hD : DynOK Tryz.prog D) : SpecOK Tryz.prog 216 (F216 S D) :=
  SpecOK.of (c := match Tryz.f216.body with | some c => c | none => .skip) (by kernel_rfl) hS hD ⟨Tryz.func216, rfl, by decide⟩
    (.seq .n (.seq .n (.seq (.seq .n (.dup (.seq .n .n) .n)) (.seq .n (.seq .n (.seq .n .n)))))) 2 (fun args h => by kernel_rfl)
/-- roundhouse/rec.void -/
noncomputable def F217 (S : FS) (D : FD) (args : List AV) (h : Heap) : Option (Bool × AV × Heap) :=
 kv2 args fun s_1 r_2 =>
 knt r_2 (Heap.pushK h (.cells (AV.cells r_2) true 167) fun h3 =>
 ob (knil s_1) fun v4 =>
 ob (kloadN 3 h3 v4) fun v5 =>
 ob (kloadN 6 h3 (.ptr (Heap.next h) 0)) fun v6 =>
 ob (S 275 [v5, v6] h3) fun r7 => kres r7 (fun v8 h9 =>
 kif v8
  ((some (false, (.int .i64 (.ofNat 14)), h9)))
  (ob (knil s_1) fun v12 =>
  ob (kfa 0 v12) fun v13 =>
  ob (kload h9 v13) fun v14 =>
  ob (kfa 1 (.ptr (Heap.next h) 0)) fun v15 =>
  ob (kload h9 v15) fun v16 =>
  ob (kfa 2 (.ptr (Heap.next h) 0)) fun v17 =>
  ob (kload h9 v17) fun v18 =>
  ob (abuild Tryz.prog 153 [(0, v16), (1, v18), (2, (.int .i64 (.ofNat 2)))]) fun v19 =>
  kfree h9 (ob (abuildSlice Tryz.prog 82 1 [(0, v19)]) fun r20 => Heap.pushK h9 (.cells r20.1 true r20.2.2) fun h21 =>
  ob (aappend Tryz.prog h21 82 82 v14 (.slice (Heap.next h9) 0 1 1 r20.2.1)) fun r22 =>
  ob (knil s_1) fun v23 =>
  ob (kfa 0 v23) fun v24 =>
  ob (kstore 1 v24 r22.1 r22.2) fun h25 =>
  (some (false, (.int .i64 (.ofNat 0)), h25))))) (fun p10 h11 => (some (true, p10, h11))))
theorem F217_ok {S : FS} {D : FD} (hS : SpecsOK Tryz.prog S) (hD : DynOK Tryz.prog D) : SpecOK Tryz.prog 217 (F217 S D) :=
  SpecOK.of (c := match Tryz.f217.body with | some c => c | none => .skip) (by kernel_rfl) hS hD ⟨Tryz.func217, rfl, by decide⟩
    (.seq .n (.seq (.seq .n (.dup (.seq .n .n) .n)) (.seq .n (.seq .n .n)))) 2 (fun args h => by kernel_rfl)
/-- slices.siftDownOrdered[int] -/
noncomputable def F218 (S : FS) (D : FD) (args : List AV) (h : Heap) : Option (Bool × AV × Heap) :=
 kv4 args fun data_1 lo_2 hi_3 first_4 =>
 ob (iterD (fun vs5 ds6 h7 => kv4 vs5 fun data_8 hi_9 first_10 root_11 =>
  ob (kbinI .mul (.int .i64 (.ofNat 2)) root_11) fun v12 =>
  ob (kbinI .add v12 (.int .i64 (.ofNat 1))) fun v13 =>
  ob (kbinI .geq v13 hi_9) fun v14 =>
  kif v14
   ((some ⟨1, [], ds6, h7⟩))
   (ob (kbinI .add v13 (.int .i64 (.ofNat 1))) fun v15 =>
   ob (kbinI .lss v15 hi_9) fun v16 =>
   ob (kgv true v16 (some data_8)) fun v17 =>
   ob (kgv true v16 (some first_10)) fun v18 =>
   ob (kgv true v16 (some v13)) fun v19 =>
   ob (kgv true v16 (kbinI .add v18 v19)) fun v20 =>
   ob (kgv true v16 (kia 1 v17 v20)) fun v21 =>
   ob (kgv true v16 (kload h7 v21)) fun v22 =>
   ob (kgv true v16 (some data_8)) fun v23 =>
   ob (kgv true v16 (some first_10)) fun v24 =>
   ob (kgv true v16 (some v13)) fun v25 =>
   ob (kgv true v16 (kbinI .add v24 v25)) fun v26 =>
   ob (kgv true v16 (kbinI .add v26 (.int .i64 (.ofNat 1)))) fun v27 =>
   ob (kgv true v16 (kia 1 v23 v27)) fun v28 =>
   ob (kgv true v16 (kload h7 v28)) fun v29 =>
   ob (kgc true v16 h7 (S 165 [v22, v29] h7)) fun r30 => kres r30 (fun v31 h32 =>
   ob (kpick v16 v31 (.bool false)) fun v35 =>
   ob (kif v35
    (ob (kbinI .add v13 (.int .i64 (.ofNat 1))) fun v37 =>
    (some ⟨0, [data_8, hi_9, first_10, root_11, v37], ds6, h32⟩))
    ((some ⟨0, [data_8, hi_9, first_10, root_11, v13], ds6, h32⟩))) fun r36 => kcase (J.i r36) [kv5 (J.vs r36) fun data_38 hi_39 first_40 root_41 child_42 =>
    ob (kbinI .add first_40 root_41) fun v43 =>
    ob (kia 1 data_38 v43) fun v44 =>
    ob (kload (J.h r36) v44) fun v45 =>
    ob (kbinI .add first_40 child_42) fun v46 =>
    ob (kia 1 data_38 v46) fun v47 =>
    ob (kload (J.h r36) v47) fun v48 =>
    ob (S 165 [v45, v48] (J.h r36)) fun r49 => kres r49 (fun v50 h51 =>
    ob (aun .not v50) fun v54 =>
    kif v54
     ((some ⟨2, [], (J.ds r36), h51⟩))
     (ob (kbinI .add first_40 root_41) fun v55 =>
     ob (kbinI .add first_40 child_42) fun v56 =>
     ob (kbinI .add first_40 child_42) fun v57 =>
     ob (kia 1 data_38 v57) fun v58 =>
     ob (kload h51 v58) fun v59 =>
     ob (kbinI .add first_40 root_41) fun v60 =>
     ob (kia 1 data_38 v60) fun v61 =>
     ob (kload h51 v61) fun v62 =>
     ob (kia 1 data_38 v55) fun v63 =>
     ob (kstore 1 v63 v59 h51) fun h64 =>
     ob (kia 1 data_38 v56) fun v65 =>
     ob (kstore 1 v65 v62 h64) fun h66 =>
     (some ⟨0, [data_38, hi_39, first_40, child_42], (J.ds r36), h66⟩))) (fun p52 h53 => (some ⟨3, [p52], (J.ds r36), h53⟩))]) (fun p33 h34 => (some ⟨3, [p33], ds6, h34⟩)))) rounds [data_1, hi_3, first_4, lo_2] [] h) fun r67 => kcase (J.i r67) [kv0 (J.vs r67) ((dleave (fun h68 => (some (false, (.tuple []), h68))) (J.ds r67) (J.h r67))),
 kv0 (J.vs r67) ((dleave (fun h69 => (some (false, (.tuple []), h69))) (J.ds r67) (J.h r67))),
 kv1 (J.vs r67) fun p70 => (kds (J.ds r67) (some (true, p70, (J.h r67))))]
theorem F218_ok {S : FS} {D : FD} (hS : SpecsOK Tryz.prog S) (hD : DynOK Tryz.prog D) : SpecOK Tryz.prog 218 (F218 S D) :=
  SpecOK.of (c := match Tryz.f218.body with | some c => c | none => .skip) (by kernel_rfl) hS hD ⟨Tryz.func218, rfl, by decide⟩
    (.seq .n (.one (.loop [0, 2, 3, 8] [(.exit 0, []), (.ret, []), (.pan, [])] (.one (.seq .n (.seq (.seq .n (.dup .n .n)) (.seq (.seq .n (.join [(.norm, [0, 2, 3, 8, 9])] (.dup .n .n))) (.seq (.seq .n (.dup .n .n)) (.seq .n .n))))))))) 4 (fun args h => by kernel_rfl)
/-- slices.medianAdjacentOrdered[int] -/
noncomputable def F219 (S : FS) (D : FD) (args : List AV) (h : Heap) : Option (Bool × AV × Heap) :=
 kv3 args fun data_1 a_2 swaps_3 =>
 ob (kbinI .sub a_2 (.int .i64 (.ofNat 1))) fun v4 =>
 ob (kbinI .add a_2 (.int .i64 (.ofNat 1))) fun v5 =>
 ob (S 220 [data_1, v4, a_2, v5, swaps_3] h) fun r6 => kres r6 (fun v7 h8 =>
 (some (false, v7, h8))) (fun p9 h10 => (some (true, p9, h10)))
theorem F219_ok {S : FS} {D : FD} (hS : SpecsOK Tryz.prog S) (hD : DynOK Tryz.prog D) : SpecOK Tryz.prog 219 (F219 S D) :=
  SpecOK.of (c := match Tryz.f219.body with | some c => c | none => .skip) (by kernel_rfl) hS hD ⟨Tryz.func219, rfl, by decide⟩
    (.seq .n (.seq .n .n)) 3 (fun args h => by kernel_rfl)
/-- slices.medianOrdered[int] -/
noncomputable def F220 (S : FS) (D : FD) (args : List AV) (h : Heap) : Option (Bool × AV × Heap) :=
 kv5 args fun data_1 a_2 b_3 c_4 swaps_5 =>
 ob (S 285 [data_1, a_2, b_3, swaps_5] h) fun r6 => kres r6 (fun v7 h8 =>
 ob (aextract v7 0) fun v11 =>
 ob (aextract v7 1) fun v12 =>
 ob (S 285 [data_1, v12, c_4, swaps_5] h8) fun r13 => kres r13 (fun v14 h15 =>
 ob (aextract v14 0) fun v18 =>
 ob (aextract v14 1) fun v19 =>
 ob (S 285 [data_1, v11, v18, swaps_5] h15) fun r20 => kres r20 (fun v21 h22 =>
 ob (aextract v21 0) fun v25 =>
 ob (aextract v21 1) fun v26 =>
 (some (false, v26, h22))) (fun p23 h24 => (some (true, p23, h24)))) (fun p16 h17 => (some (true, p16, h17)))) (fun p9 h10 => (some (true, p9, h10)))
theorem F220_ok {S : FS} {D : FD} (hS : SpecsOK Tryz.prog S) (hD : DynOK Tryz.prog D) : SpecOK Tryz.prog 220 (F220 S D) :=
  SpecOK.of (c := match Tryz.f220.body with | some c => c | none => .skip) (by kernel_rfl) hS hD ⟨Tryz.func220, rfl, by decide⟩
    (.seq .n (.seq .n (.seq .n (.seq .n (.seq .n .n))))) 5 (fun args h => by kernel_rfl)
/-- (roundhouse/trace.past).of -/
noncomputable def F221 (S : FS) (D : FD) (args : List AV) (h : Heap) : Option (Bool × AV × Heap) :=
 kv3 args fun l_1 kind_2 x_3 =>
 knt l_1 (Heap.pushK h (.cells (AV.cells l_1) true 176) fun h4 =>
 knt kind_2 (Heap.pushK h4 (.cells (AV.cells kind_2) true 3) fun h5 =>
 knt x_3 (Heap.pushK h5 (.cells (AV.cells x_3) true 174) fun h6 =>
 (some (false, (.func 286 [(.ptr (Heap.next h) 0), (.ptr (Heap.next h4) 0), (.ptr (Heap.next h5) 0)]), h6)))))
theorem F221_ok {S : FS} {D : FD} (hS : SpecsOK Tryz.prog S) (hD : DynOK Tryz.prog D) : SpecOK Tryz.prog 221 (F221 S D) :=
  SpecOK.of (c := match Tryz.f221.body with | some c => c | none => .skip) (by kernel_rfl) hS hD ⟨Tryz.func221, rfl, by decide⟩
    (.seq .n (.seq .n .n)) 3 (fun args h => by kernel_rfl)
/-- slices.IndexFunc[roundhouse/trace.past,roundhouse/world.Event] -/
noncomputable def F222 (S : FS) (D : FD) (args : List AV) (h : Heap) : Option (Bool × AV × Heap) :=
 kv2 args fun s_1 f_2 =>
 ob (klenL s_1) fun v3 =>
 ob (iterD (fun vs4 ds5 h6 => kv4 vs4 fun s_7 f_8 v9 v10 =>
  ob (kbinI .lss v10 v9) fun v11 =>
  kif v11
   (ob (kia 6 s_7 v10) fun v12 =>
   ob (kloadN 6 h6 v12) fun v13 =>
   ob (D f_8 [v13] h6) fun r14 => kres r14 (fun v15 h16 =>
   kif v15
    ((some ⟨2, [v10], ds5, h16⟩))
    (ob (kbinI .add v10 (.int .i64 (.ofNat 1))) fun v19 =>
    (some ⟨0, [s_7, f_8, v9, v19], ds5, h16⟩))) (fun p17 h18 => (some ⟨3, [p17], ds5, h18⟩)))
   ((some ⟨1, [], ds5, h6⟩))) rounds [s_1, f_2, v3, (.int .i64 (.ofNat 0))] [] h) fun r20 => kcase (J.i r20) [kv0 (J.vs r20) ((dleave (fun h21 => (some (false, (.int .i64 (.negSucc 0)), h21))) (J.ds r20) (J.h r20))),
 kv1 (J.vs r20) fun v22 =>
  (dleave (fun h23 => (some (false, v22, h23))) (J.ds r20) (J.h r20)),
 kv1 (J.vs r20) fun p24 => (kds (J.ds r20) (some (true, p24, (J.h r20))))]
theorem F222_ok {S : FS} {D : FD} (hS : SpecsOK Tryz.prog S) (hD : DynOK Tryz.prog D) : SpecOK Tryz.prog 222 (F222 S D) :=
  SpecOK.of (c := match Tryz.f222.body with | some c => c | none => .skip) (by kernel_rfl) hS hD ⟨Tryz.func222, rfl, by decide⟩
    (.seq .n (.seq (.seq .n (.one (.loop [0, 1, 7, 8] [(.exit 0, []), (.ret, [4]), (.pan, [])] (.seq .n (.seq (.dup .n .n) (.seq (.one (.seq .n (.seq .n (.dup (.seq .n .n) .n)))) .n)))))) (.seq .n .n))) 2 (fun args h => by kernel_rfl)
/-- (roundhouse/trace.past).code -/
noncomputable def F223 (S : FS) (D : FD) (args : List AV) (h : Heap) : Option (Bool × AV × Heap) :=
 kv3 args fun l_1 x_2 step_3 =>
 knt x_2 (Heap.pushK h (.cells (AV.cells x_2) true 174) fun h4 =>
 ob (kfa 1 (.ptr (Heap.next h) 0)) fun v5 =>
 ob (kstore 1 v5 (.int .i64 (.negSucc 0)) h4) fun h6 =>
 ob (kfa 4 (.ptr (Heap.next h) 0)) fun v7 =>
 ob (kstore 1 v7 step_3 h6) fun h8 =>
 ob (kloadN 6 h8 (.ptr (Heap.next h) 0)) fun v9 =>
 ob (S 171 [l_1, (.int .i64 (.ofNat 11)), v9] h8) fun r10 => kres r10 (fun v11 h12 =>
 ob (aextract v11 0) fun v15 =>
 ob (aextract v11 1) fun v16 =>
 Heap.pushK h12 (.cells [(.int .i64 (.ofNat 0)), (.int .i64 (.ofNat 0)), (.int .i64 (.ofNat 0)), (.int .i64 (.ofNat 0)), (.int .i64 (.ofNat 0)), (.int .i64 (.ofNat 0))] true 174) fun h17 =>
 ob (kstore 6 (.ptr (Heap.next h12) 0) v15 h17) fun h18 =>
 kif v16
  (ob (kfa 5 (.ptr (Heap.next h12) 0)) fun v19 =>
  ob (kload h18 v19) fun v20 =>
  (some (false, v20, h18)))
  ((some (false, (.int .i64 (.negSucc 0)), h18)))) (fun p13 h14 => (some (true, p13, h14))))
theorem F223_ok {S : FS} {D : FD} (hS : SpecsOK Tryz.prog S) (hD : DynOK Tryz.prog D) : SpecOK Tryz.prog 223 (F223 S D) :=
  SpecOK.of (c := match Tryz.f223.body with | some c => c | none => .skip) (by kernel_rfl) hS hD ⟨Tryz.func223, rfl, by decide⟩
    (.seq .n (.seq .n (.seq (.seq .n (.seq .n (.dup (.seq .n .n) .n))) (.seq .n .n)))) 3 (fun args h => by kernel_rfl)
/-- roundhouse/dag.in -/
noncomputable def F224 (S : FS) (D : FD) (args : List AV) (h : Heap) : Option (Bool × AV × Heap) :=
 kv3 args fun n_1 least_2 most_3 =>
 ob (kbinI .geq n_1 least_2) fun v4 =>
 ob (kgv true v4 (some n_1)) fun v5 =>
 ob (kgv true v4 (some most_3)) fun v6 =>
 ob (kgv true v4 (kbinI .leq v5 v6)) fun v7 =>
 ob (kpick v4 v7 (.bool false)) fun v8 =>
 (some (false, v8, h))
theorem F224_ok {S : FS} {D : FD} (hS : SpecsOK Tryz.prog S) (hD : DynOK Tryz.prog D) : SpecOK Tryz.prog 224 (F224 S D) :=
  SpecOK.of (c := match Tryz.f224.body with | some c => c | none => .skip) (by kernel_rfl) hS hD ⟨Tryz.func224, rfl, by decide⟩
    (.seq .n (.seq .n .n)) 3 (fun args h => by kernel_rfl)
/-- roundhouse/dag.step -/
noncomputable def F225 (S : FS) (D : FD) (args : List AV) (h : Heap) : Option (Bool × AV × Heap) :=
 kv3 args fun s_1 at_2 n_3 =>
 knt s_1 (Heap.pushK h (.cells (AV.cells s_1) true 64) fun h4 =>
 ob (kfa 0 (.ptr (Heap.next h) 0)) fun v5 =>
 ob (kload h4 v5) fun v6 =>
 ob (S 224 [v6, (.int .i64 (.ofNat 1)), (.int .i64 (.ofNat 32))] h4) fun r7 => kres r7 (fun v8 h9 =>
 ob (aun .not v8) fun v12 =>
 ob (kgv false v12 (kfa 1 (.ptr (Heap.next h) 0))) fun v13 =>
 ob (kgv false v12 (kload h9 v13)) fun v14 =>
 ob (kgc false v12 h9 (S 224 [v14, (.int .i64 (.ofNat 1)), (.int .i64 (.ofNat 256))] h9)) fun r15 => kres r15 (fun v16 h17 =>
 ob (kgv false v12 (aun .not v16)) fun v20 =>
 ob (kpick v12 (.bool true) v20) fun v21 =>
 ob (kgv false v21 (kfa 2 (.ptr (Heap.next h) 0))) fun v22 =>
 ob (kgv false v21 (kload h17 v22)) fun v23 =>
 ob (kgc false v21 h17 (S 224 [v23, (.int .i64 (.ofNat 0)), (.int .i64 (.ofNat 1))] h17)) fun r24 => kres r24 (fun v25 h26 =>
 ob (kgv false v21 (aun .not v25)) fun v29 =>
 ob (kpick v21 (.bool true) v29) fun v30 =>
 ob (kgv false v30 (kfa 3 (.ptr (Heap.next h) 0))) fun v31 =>
 ob (kgv false v30 (kload h26 v31)) fun v32 =>
 ob (kgc false v30 h26 (S 224 [v32, (.int .i64 (.ofNat 1)), (.int .i64 (.ofNat 1073741824))] h26)) fun r33 => kres r33 (fun v34 h35 =>
 ob (kgv false v30 (aun .not v34)) fun v38 =>
 ob (kpick v30 (.bool true) v38) fun v39 =>
 kif v39
  ((some (false, (.bool false), h35)))
  (ob (abuildSlice Tryz.prog 37 1 [(0, at_2)]) fun r40 => Heap.pushK h35 (.cells r40.1 true r40.2.2) fun h41 =>
  ob (kfa 4 (.ptr (Heap.next h) 0)) fun v42 =>
  ob (kload h41 v42) fun v43 =>
  ob (klenL v43) fun v44 =>
  ob (iterD (fun vs45 ds46 h47 => kv5 vs45 fun n_48 named_49 v50 v51 v52 =>
   ob (kbinI .lss v52 v51) fun v53 =>
   kif v53
    (ob (kia 2 v50 v52) fun v54 =>
    ob (kloadN 2 h47 v54) fun v55 =>
    Heap.pushK h47 (.cells [(.int .i64 (.ofNat 0)), (.int .i64 (.ofNat 0))] true 231) fun h56 =>
    ob (kstore 2 (.ptr (Heap.next h47) 0) v55 h56) fun h57 =>
    ob (kfa 0 (.ptr (Heap.next h47) 0)) fun v58 =>
    ob (kload h57 v58) fun v59 =>
    ob (kbinI .sub n_48 (.int .i64 (.ofNat 1))) fun v60 =>
    ob (S 224 [v59, (.int .i64 (.ofNat 0)), v60] h57) fun r61 => kres r61 (fun v62 h63 =>
    ob (aun .not v62) fun v66 =>
    ob (kgv false v66 (kfa 1 (.ptr (Heap.next h47) 0))) fun v67 =>
    ob (kgv false v66 (kload h63 v67)) fun v68 =>
    ob (kgc false v66 h63 (S 224 [v68, (.int .i64 (.ofNat 0)), (.int .i64 (.ofNat 2))] h63)) fun r69 => kres r69 (fun v70 h71 =>
    ob (kgv false v66 (aun .not v70)) fun v74 =>
    ob (kpick v66 (.bool true) v74) fun v75 =>
    ob (kgv false v75 (some named_49)) fun v76 =>
    ob (kgv false v75 (kfa 0 (.ptr (Heap.next h47) 0))) fun v77 =>
    ob (kgv false v75 (kload h71 v77)) fun v78 =>
    ob (kgc false v75 h71 (S 114 [v76, v78] h71)) fun r79 => kres r79 (fun v80 h81 =>
    ob (kpick v75 (.bool true) v80) fun v84 =>
    kif v84
     ((some ⟨2, [(.bool false)], ds46, h81⟩))
     (ob (kfa 0 (.ptr (Heap.next h47) 0)) fun v85 =>
     ob (kload h81 v85) fun v86 =>
     ob (abuildSlice Tryz.prog 37 1 [(0, v86)]) fun r87 => Heap.pushK h81 (.cells r87.1 true r87.2.2) fun h88 =>
     ob (aappend Tryz.prog h88 37 37 named_49 (.slice (Heap.next h81) 0 1 1 r87.2.1)) fun r89 =>
     ob (kbinI .add v52 (.int .i64 (.ofNat 1))) fun v90 =>
     (some ⟨0, [n_48, r89.1, v50, v51, v90], ds46, r89.2⟩))) (fun p82 h83 => (some ⟨3, [p82], ds46, h83⟩))) (fun p72 h73 => (some ⟨3, [p72], ds46, h73⟩))) (fun p64 h65 => (some ⟨3, [p64], ds46, h65⟩)))
    ((some ⟨1, [], ds46, h47⟩))) rounds [n_3, (.slice (Heap.next h35) 0 1 1 r40.2.1), v43, v44, (.int .i64 (.ofNat 0))] [] h41) fun r91 => kcase (J.i r91) [kv0 (J.vs r91) ((dleave (fun h92 => (some (false, (.bool true), h92))) (J.ds r91) (J.h r91))),
  kv1 (J.vs r91) fun v93 =>
   (dleave (fun h94 => (some (false, v93, h94))) (J.ds r91) (J.h r91)),
  kv1 (J.vs r91) fun p95 => (kds (J.ds r91) (some (true, p95, (J.h r91))))])) (fun p36 h37 => (some (true, p36, h37)))) (fun p27 h28 => (some (true, p27, h28)))) (fun p18 h19 => (some (true, p18, h19)))) (fun p10 h11 => (some (true, p10, h11))))
theorem F225_ok {S : FS} {D : FD} (hS : SpecsOK Tryz.prog S) (hD : DynOK Tryz.prog D) : SpecOK Tryz.prog 225 (F225 S D) :=
  SpecOK.of (c := match Tryz.f225.body with | some c => c | none => .skip) (by kernel_rfl) hS hD ⟨Tryz.func225, rfl, by decide⟩
    (.seq .n (.seq (.seq .n (.dup (.seq .n .n) .n)) (.seq .n (.seq (.seq .n (.one (.loop [2, 7, 35, 36, 37] [(.exit 0, []), (.ret, [6]), (.pan, [])] (.seq .n (.seq (.dup .n .n) (.seq (.one (.seq .n (.seq (.seq .n (.dup (.seq .n .n) .n)) .n))) .n)))))) (.seq .n .n))))) 3 (fun args h => by kernel_rfl)
/-- roundhouse/dag.order -/
noncomputable def F226 (S : FS) (D : FD) (args : List AV) (h : Heap) : Option (Bool × AV × Heap) :=
 kv1 args fun l_1 =>
 ob (iterD (fun vs2 ds3 h4 => kv2 vs2 fun l_5 out_6 =>
  ob (klenL l_5) fun v7 =>
  ob (iterD (fun vs8 ds9 h10 => kv5 vs8 fun l_11 out_12 v13 v14 v15 =>
   ob (kbinI .lss v15 v14) fun v16 =>
   kif v16
    (ob (ob (kia 5 v13 v15) fun v18 =>
     ob (kloadN 5 h10 v18) fun v19 =>
     Heap.pushK h10 (.cells [(.int .i64 (.ofNat 0)), (.int .i64 (.ofNat 0)), (.int .i64 (.ofNat 0)), (.int .i64 (.ofNat 0)), AV.nilslice] true 64) fun h20 =>
     ob (kstore 5 (.ptr (Heap.next h10) 0) v19 h20) fun h21 =>
     ob (S 114 [out_12, v15] h21) fun r22 => kres r22 (fun v23 h24 =>
     kif v23
      ((some ⟨0, [l_11, out_12, v13, v14, v15], ds9, h24⟩))
      (ob (kfa 4 (.ptr (Heap.next h10) 0)) fun v27 =>
      ob (kload h24 v27) fun v28 =>
      ob (klenL v28) fun v29 =>
      ob (iterD (fun vs30 ds31 h32 => kv9 vs30 fun l_33 out_34 i_35 v36 v37 v38 v39 v40 v41 =>
       ob (kbinI .lss v41 v40) fun v42 =>
       kif v42
        (ob (kia 2 v39 v41) fun v43 =>
        ob (kloadN 2 h32 v43) fun v44 =>
        Heap.pushK h32 (.cells [(.int .i64 (.ofNat 0)), (.int .i64 (.ofNat 0))] true 231) fun h45 =>
        ob (kstore 2 (.ptr (Heap.next h32) 0) v44 h45) fun h46 =>
        ob (kfa 0 (.ptr (Heap.next h32) 0)) fun v47 =>
        ob (kload h46 v47) fun v48 =>
        ob (S 114 [out_34, v48] h46) fun r49 => kres r49 (fun v50 h51 =>
        ob (aun .not v50) fun v54 =>
        kif v54
         ((some ⟨1, [l_33, out_34, v36, v37, v38], ds31, h51⟩))
         (ob (kbinI .add v41 (.int .i64 (.ofNat 1))) fun v55 =>
         (some ⟨0, [l_33, out_34, i_35, v36, v37, v38, v39, v40, v55], ds31, h51⟩))) (fun p52 h53 => (some ⟨3, [p52], ds31, h53⟩)))
        ((some ⟨2, [l_33, out_34, i_35], ds31, h32⟩))) rounds [l_11, out_12, v15, v13, v14, v15, v28, v29, (.int .i64 (.ofNat 0))] ds9 h24) fun r56 => kcase (J.i r56) [kv5 (J.vs r56) fun l_57 out_58 v59 v60 v61 =>
       (some ⟨0, [l_57, out_58, v59, v60, v61], (J.ds r56), (J.h r56)⟩),
      kv3 (J.vs r56) fun l_62 out_63 i_64 =>
       ob (abuildSlice Tryz.prog 37 1 [(0, i_64)]) fun r65 => Heap.pushK (J.h r56) (.cells r65.1 true r65.2.2) fun h66 =>
       ob (aappend Tryz.prog h66 37 37 out_63 (.slice (Heap.next (J.h r56)) 0 1 1 r65.2.1)) fun r67 =>
       (some ⟨1, [l_62, r67.1], (J.ds r56), r67.2⟩),
      kv1 (J.vs r56) fun p68 => (some ⟨2, [p68], (J.ds r56), (J.h r56)⟩)])) (fun p25 h26 => (some ⟨2, [p25], ds9, h26⟩))) fun r17 => kcase (J.i r17) [kv5 (J.vs r17) fun l_69 out_70 v71 v72 v73 =>
     ob (kbinI .add v73 (.int .i64 (.ofNat 1))) fun v74 =>
     (some ⟨0, [l_69, out_70, v71, v72, v74], (J.ds r17), (J.h r17)⟩),
    kv2 (J.vs r17) fun l_75 out_76 =>
     (some ⟨1, [l_75, out_76], (J.ds r17), (J.h r17)⟩),
    kv1 (J.vs r17) fun p77 => (some ⟨3, [p77], (J.ds r17), (J.h r17)⟩)])
    ((some ⟨2, [out_12], ds9, h10⟩))) rounds [l_5, out_6, l_5, v7, (.int .i64 (.ofNat 0))] ds3 h4) fun r78 => kcase (J.i r78) [kv2 (J.vs r78) fun l_79 out_80 =>
   (some ⟨0, [l_79, out_80], (J.ds r78), (J.h r78)⟩),
  kv1 (J.vs r78) fun out_81 =>
   (some ⟨1, [out_81], (J.ds r78), (J.h r78)⟩),
  kv1 (J.vs r78) fun p82 => (some ⟨2, [p82], (J.ds r78), (J.h r78)⟩)]) rounds [l_1, AV.nilslice] [] h) fun r83 => kcase (J.i r83) [kv1 (J.vs r83) fun out_84 =>
  (dleave (fun h85 => (some (false, out_84, h85))) (J.ds r83) (J.h r83)),
 kv1 (J.vs r83) fun p86 => (kds (J.ds r83) (some (true, p86, (J.h r83))))]
theorem F226_ok {S : FS} {D : FD} (hS : SpecsOK Tryz.prog S) (hD : DynOK Tryz.prog D) : SpecOK Tryz.prog 226 (F226 S D) :=
  SpecOK.of (c := match Tryz.f226.body with | some c => c | none => .skip) (by kernel_rfl) hS hD ⟨Tryz.func226, rfl, by decide⟩
    (.seq .n (.one (.seq .n (.seq .n (.seq (.one (.loop [0, 3] [(.exit 0, [3]), (.pan, [])] (.one (.one (.seq .n (.seq (.seq .n (.one (.loop [0, 3, 8, 9, 10] [(.exit 1, [0, 3]), (.exit 2, [3]), (.pan, [])] (.seq .n (.seq (.dup .n .n) (.seq (.join [(.norm, [0, 3, 8, 9, 10]), (.exit 1, [0, 3]), (.pan, [])] (.one (.seq .n (.seq (.seq .n (.dup .n .n)) (.seq (.seq .n (.one (.loop [0, 3, 4, 8, 9, 10, 19, 20, 21] [(.exit 3, [0, 3, 8, 9, 10]), (.exit 4, [0, 3, 4]), (.pan, [])] (.seq .n (.seq (.dup .n .n) (.seq (.one (.seq .n (.seq .n (.dup .n .n)))) .n)))))) (.seq .n .n)))))) .n)))))) .n)))))) (.seq .n .n)))))) 1 (fun args h => by kernel_rfl)
end Go.Rh.Tryz
