/- Printed by wip/tools/gen.py: functions of the program as plain functions over abstract values, each with its proof. -/
import Derived.Test.YthcebbcfaokcdaaGreatProg
import Derived.Test.YthcebbcfaokcdaaGreatRh3
set_option maxRecDepth 1000000
set_option linter.unusedVariables false
namespace Go.Rh.Tryz
open Go.Proofs
/-- (*roundhouse/ctl.Ctl).Jobs -/
noncomputable def F27 (S : FS) (D : FD) (args : List AV) (h : Heap) : Option (Bool × AV × Heap) :=
 kv1 args fun c_1 =>
 ob (kbinO Tryz.prog .eql 61 true c_1 AV.nilptr) fun v2 =>
 kif v2
  ((some (false, (.int .i64 (.ofNat 0)), h)))
  (ob (knil c_1) fun v3 =>
  ob (kfa 1 v3) fun v4 =>
  ob (kload h v4) fun v5 =>
  ob (klenL v5) fun v6 =>
  (some (false, v6, h)))
theorem F27_ok {S : FS} {D : FD} (hS : SpecsOK Tryz.prog S) (hD : DynOK Tryz.prog D) : SpecOK Tryz.prog 27 (F27 S D) :=
  SpecOK.of (c := match Tryz.f27.body with | some c => c | none => .skip) (by kernel_rfl) hS hD ⟨Tryz.func27, rfl, by decide⟩
    (.seq .n (.seq (.seq .n (.dup (.seq .n .n) .n)) (.seq .n .n))) 1 (fun args h => by kernel_rfl)
/-- slices.Clone[[]roundhouse/api.Job,roundhouse/api.Job] -/
noncomputable def F28 (S : FS) (D : FD) (args : List AV) (h : Heap) : Option (Bool × AV × Heap) :=
 kv1 args fun s_1 =>
 ob (kbinO Tryz.prog .eql 45 true s_1 AV.nilslice) fun v2 =>
 kif v2
  ((some (false, AV.nilslice, h)))
  (ob (abuildSlice Tryz.prog 45 0 []) fun r3 => Heap.pushK h (.cells r3.1 true r3.2.2) fun h4 =>
  ob (aappend Tryz.prog h4 45 45 (.slice (Heap.next h) 0 0 0 r3.2.1) s_1) fun r5 =>
  (some (false, r5.1, r5.2)))
theorem F28_ok {S : FS} {D : FD} (hS : SpecsOK Tryz.prog S) (hD : DynOK Tryz.prog D) : SpecOK Tryz.prog 28 (F28 S D) :=
  SpecOK.of (c := match Tryz.f28.body with | some c => c | none => .skip) (by kernel_rfl) hS hD ⟨Tryz.func28, rfl, by decide⟩
    (.seq .n (.seq (.seq .n (.dup (.seq .n .n) .n)) (.seq .n .n))) 1 (fun args h => by kernel_rfl)
/-- roundhouse/ctl.New -/
noncomputable def F29 (S : FS) (D : FD) (args : List AV) (h : Heap) : Option (Bool × AV × Heap) :=
 kv1 args fun key_1 =>
 ob (abuild Tryz.prog 129 [(0, key_1)]) fun v2 =>
 knt v2 (Heap.pushK h (.cells (AV.cells v2) true 129) fun h3 =>
 (some (false, (.ptr (Heap.next h) 0), h3)))
theorem F29_ok {S : FS} {D : FD} (hS : SpecsOK Tryz.prog S) (hD : DynOK Tryz.prog D) : SpecOK Tryz.prog 29 (F29 S D) :=
  SpecOK.of (c := match Tryz.f29.body with | some c => c | none => .skip) (by kernel_rfl) hS hD ⟨Tryz.func29, rfl, by decide⟩
    (.seq .n (.seq .n .n)) 1 (fun args h => by kernel_rfl)
/-- roundhouse/net.New -/
noncomputable def F30 (S : FS) (D : FD) (args : List AV) (h : Heap) : Option (Bool × AV × Heap) :=
 kv1 args fun n_1 =>
 ob (kbinI .lss n_1 (.int .i64 (.ofNat 1))) fun v2 =>
 ob (kgv false v2 (some n_1)) fun v3 =>
 ob (kgv false v2 (kbinI .gtr v3 (.int .i64 (.ofNat 1000)))) fun v4 =>
 ob (kpick v2 (.bool true) v4) fun v5 =>
 kif v5
  ((some (false, AV.nilptr, h)))
  (ob (abuild Tryz.prog 132 [(0, n_1)]) fun v6 =>
  knt v6 (Heap.pushK h (.cells (AV.cells v6) true 132) fun h7 =>
  (some (false, (.ptr (Heap.next h) 0), h7))))
theorem F30_ok {S : FS} {D : FD} (hS : SpecsOK Tryz.prog S) (hD : DynOK Tryz.prog D) : SpecOK Tryz.prog 30 (F30 S D) :=
  SpecOK.of (c := match Tryz.f30.body with | some c => c | none => .skip) (by kernel_rfl) hS hD ⟨Tryz.func30, rfl, by decide⟩
    (.seq .n (.seq (.seq .n (.dup (.seq .n .n) .n)) (.seq .n .n))) 1 (fun args h => by kernel_rfl)
/-- roundhouse/agent.New -/
noncomputable def F31 (S : FS) (D : FD) (args : List AV) (h : Heap) : Option (Bool × AV × Heap) :=
 kv1 args fun c_1 =>
 knt c_1 (Heap.pushK h (.cells (AV.cells c_1) true 72) fun h2 =>
 ob (kfa 0 (.ptr (Heap.next h) 0)) fun v3 =>
 ob (kload h2 v3) fun v4 =>
 ob (S 54 [v4, (.int .i64 (.ofNat 0)), (.int .i64 (.ofNat 15))] h2) fun r5 => kres r5 (fun v6 h7 =>
 ob (aun .not v6) fun v10 =>
 ob (kgv false v10 (kfa 1 (.ptr (Heap.next h) 0))) fun v11 =>
 ob (kgv false v10 (kloadN 2 h7 v11)) fun v12 =>
 ob (kgc false v10 h7 (S 55 [v12] h7)) fun r13 => kres r13 (fun v14 h15 =>
 ob (kgv false v10 (kbinI .neq v14 (.int .i64 (.ofNat 0)))) fun v18 =>
 ob (kpick v10 (.bool true) v18) fun v19 =>
 ob (kgv false v19 (kfa 4 (.ptr (Heap.next h) 0))) fun v20 =>
 ob (kgv false v19 (kload h15 v20)) fun v21 =>
 ob (kgc false v19 h15 (S 54 [v21, (.int .i64 (.ofNat 1)), (.int .i64 (.ofNat 1073741824))] h15)) fun r22 => kres r22 (fun v23 h24 =>
 ob (kgv false v19 (aun .not v23)) fun v27 =>
 ob (kpick v19 (.bool true) v27) fun v28 =>
 ob (kgv false v28 (kfa 5 (.ptr (Heap.next h) 0))) fun v29 =>
 ob (kgv false v28 (kload h24 v29)) fun v30 =>
 ob (kgc false v28 h24 (S 54 [v30, (.int .i64 (.ofNat 0)), (.int .i64 (.ofNat 1073741824))] h24)) fun r31 => kres r31 (fun v32 h33 =>
 ob (kgv false v28 (aun .not v32)) fun v36 =>
 ob (kpick v28 (.bool true) v36) fun v37 =>
 kif v37
  ((some (false, AV.nilptr, h33)))
  (ob (kloadN 6 h33 (.ptr (Heap.next h) 0)) fun v38 =>
  kfree h33 (Heap.pushK h33 (.map [] [] 0) fun h39 =>
  ob (S 56 [] h39) fun r40 => kres r40 (fun v41 h42 =>
  kro (Heap.next h33) h39 h42 (kre (kloadN 6 h42 (.ptr (Heap.next h) 0)) v38 (ob (S 57 [] h42) fun r45 => kres r45 (fun v46 h47 =>
  kro (Heap.next h33) h39 h47 (kre (kloadN 6 h47 (.ptr (Heap.next h) 0)) v38 (ob (abuild Tryz.prog 70 [(1, v41), (2, v46), (3, (.map (Heap.next h33)))]) fun v50 =>
  ob (abuild Tryz.prog 81 [(1, v38), (0, v50)]) fun v51 =>
  kfree h47 (knt v51 (Heap.pushK h47 (.cells (AV.cells v51) true 81) fun h52 =>
  ob (S 58 [(.ptr (Heap.next h47) 0)] h52) fun r53 => kres r53 (fun v54 h55 =>
  (some (false, (.ptr (Heap.next h47) 0), h55))) (fun p56 h57 => (some (true, p56, h57)))))))) (fun p48 h49 => none)))) (fun p43 h44 => none)))) (fun p34 h35 => (some (true, p34, h35)))) (fun p25 h26 => (some (true, p25, h26)))) (fun p16 h17 => (some (true, p16, h17)))) (fun p8 h9 => (some (true, p8, h9))))
theorem F31_ok {S : FS} {D : FD} (hS : SpecsOK Tryz.prog S) (hD : DynOK Tryz.prog D) : SpecOK Tryz.prog 31 (F31 S D) :=
  SpecOK.of (c := match Tryz.f31.body with | some c => c | none => .skip) (by kernel_rfl) hS hD ⟨Tryz.func31, rfl, by decide⟩
    (.seq .n (.seq (.seq .n (.dup (.seq .n .n) .n)) (.seq .n (.seq .n (.seq .n .n))))) 1 (fun args h => by kernel_rfl)
/-- (*roundhouse/ctl.Ctl).find -/
noncomputable def F32 (S : FS) (D : FD) (args : List AV) (h : Heap) : Option (Bool × AV × Heap) :=
 kv2 args fun c_1 id_2 =>
 ob (kbinO Tryz.prog .eql 61 true c_1 AV.nilptr) fun v3 =>
 ob (kgv false v3 (some id_2)) fun v4 =>
 ob (kgv false v3 (kbinI .lss v4 (.int .i64 (.ofNat 1)))) fun v5 =>
 ob (kpick v3 (.bool true) v5) fun v6 =>
 ob (kgv false v6 (some id_2)) fun v7 =>
 ob (kgv false v6 (some c_1)) fun v8 =>
 ob (kgv false v6 (knil v8)) fun v9 =>
 ob (kgv false v6 (kfa 1 v9)) fun v10 =>
 ob (kgv false v6 (kload h v10)) fun v11 =>
 ob (kgv false v6 (klenL v11)) fun v12 =>
 ob (kgv false v6 (kbinI .gtr v7 v12)) fun v13 =>
 ob (kpick v6 (.bool true) v13) fun v14 =>
 kif v14
  ((some (false, AV.nilptr, h)))
  (ob (knil c_1) fun v15 =>
  ob (kfa 1 v15) fun v16 =>
  ob (kload h v16) fun v17 =>
  ob (kbinI .sub id_2 (.int .i64 (.ofNat 1))) fun v18 =>
  ob (kia 1 v17 v18) fun v19 =>
  ob (kload h v19) fun v20 =>
  (some (false, v20, h)))
theorem F32_ok {S : FS} {D : FD} (hS : SpecsOK Tryz.prog S) (hD : DynOK Tryz.prog D) : SpecOK Tryz.prog 32 (F32 S D) :=
  SpecOK.of (c := match Tryz.f32.body with | some c => c | none => .skip) (by kernel_rfl) hS hD ⟨Tryz.func32, rfl, by decide⟩
    (.seq .n (.seq (.seq .n (.dup (.seq .n .n) .n)) (.seq .n .n))) 2 (fun args h => by kernel_rfl)
/-- slices.Clone[[]int,int] -/
noncomputable def F33 (S : FS) (D : FD) (args : List AV) (h : Heap) : Option (Bool × AV × Heap) :=
 kv1 args fun s_1 =>
 ob (kbinO Tryz.prog .eql 37 true s_1 AV.nilslice) fun v2 =>
 kif v2
  ((some (false, AV.nilslice, h)))
  (ob (abuildSlice Tryz.prog 37 0 []) fun r3 => Heap.pushK h (.cells r3.1 true r3.2.2) fun h4 =>
  ob (aappend Tryz.prog h4 37 37 (.slice (Heap.next h) 0 0 0 r3.2.1) s_1) fun r5 =>
  (some (false, r5.1, r5.2)))
theorem F33_ok {S : FS} {D : FD} (hS : SpecsOK Tryz.prog S) (hD : DynOK Tryz.prog D) : SpecOK Tryz.prog 33 (F33 S D) :=
  SpecOK.of (c := match Tryz.f33.body with | some c => c | none => .skip) (by kernel_rfl) hS hD ⟨Tryz.func33, rfl, by decide⟩
    (.seq .n (.seq (.seq .n (.dup (.seq .n .n) .n)) (.seq .n .n))) 1 (fun args h => by kernel_rfl)
/-- (*roundhouse/tally.Tally).State -/
noncomputable def F34 (S : FS) (D : FD) (args : List AV) (h : Heap) : Option (Bool × AV × Heap) :=
 kv1 args fun t_1 =>
 ob (kbinO Tryz.prog .eql 112 true t_1 AV.nilptr) fun v2 =>
 kif v2
  ((some (false, (.int .i64 (.ofNat 0)), h)))
  (ob (knil t_1) fun v3 =>
  ob (kfa 1 v3) fun v4 =>
  ob (kload h v4) fun v5 =>
  ob (arangeM Tryz.prog h 137 v5) fun r6 =>
  ob (iterD (fun vs7 ds8 h9 => kv2 vs7 fun t_10 v11 =>
   ob (anext h9 v11 false) fun r12 =>
   ob (aextract r12.1 0) fun v13 =>
   kif v13
    (ob (aentry r12.2 v11) fun v14 =>
    ob (aextract v14 1) fun v15 =>
    ob (kbinO Tryz.prog .neq 141 true v15 AV.nilptr) fun v16 =>
    ob (kgv true v16 (some v15)) fun v17 =>
    ob (kgv true v16 (knil v17)) fun v18 =>
    ob (kgv true v16 (kload r12.2 v18)) fun v19 =>
    ob (kgv true v16 (aun .not v19)) fun v20 =>
    ob (kpick v16 v20 (.bool false)) fun v21 =>
    kif v21
     ((some ⟨2, [(.int .i64 (.ofNat 2))], ds8, r12.2⟩))
     ((some ⟨0, [t_10, v11], ds8, r12.2⟩)))
    ((some ⟨1, [t_10], ds8, r12.2⟩))) rounds [t_1, r6.1] [] r6.2) fun r22 => kcase (J.i r22) [kv1 (J.vs r22) fun t_23 =>
   ob (knil t_23) fun v24 =>
   ob (kfa 0 v24) fun v25 =>
   ob (kload (J.h r22) v25) fun v26 =>
   ob (knil t_23) fun v27 =>
   ob (kfa 1 v27) fun v28 =>
   ob (kload (J.h r22) v28) fun v29 =>
   ob (S 59 [v26, v29] (J.h r22)) fun r30 => kres r30 (fun v31 h32 =>
   ob (klenL v31) fun v35 =>
   ob (kbinI .gtr v35 (.int .i64 (.ofNat 0))) fun v36 =>
   kif v36
    ((dleave (fun h37 => (some (false, (.int .i64 (.ofNat 0)), h37))) (J.ds r22) h32))
    (ob (knil t_23) fun v38 =>
    ob (kfa 0 v38) fun v39 =>
    ob (kload h32 v39) fun v40 =>
    ob (knil t_23) fun v41 =>
    ob (kfa 2 v41) fun v42 =>
    ob (kload h32 v42) fun v43 =>
    ob (S 60 [v40, v43] h32) fun r44 => kres r44 (fun v45 h46 =>
    ob (klenL v45) fun v49 =>
    ob (kbinI .gtr v49 (.int .i64 (.ofNat 0))) fun v50 =>
    kif v50
     ((dleave (fun h51 => (some (false, (.int .i64 (.ofNat 1)), h51))) (J.ds r22) h46))
     ((dleave (fun h52 => (some (false, (.int .i64 (.ofNat 3)), h52))) (J.ds r22) h46))) (fun p47 h48 => (kds (J.ds r22) (some (true, p47, h48)))))) (fun p33 h34 => (kds (J.ds r22) (some (true, p33, h34)))),
  kv1 (J.vs r22) fun v53 =>
   (dleave (fun h54 => (some (false, v53, h54))) (J.ds r22) (J.h r22))])
theorem F34_ok {S : FS} {D : FD} (hS : SpecsOK Tryz.prog S) (hD : DynOK Tryz.prog D) : SpecOK Tryz.prog 34 (F34 S D) :=
  SpecOK.of (c := match Tryz.f34.body with | some c => c | none => .skip) (by kernel_rfl) hS hD ⟨Tryz.func34, rfl, by decide⟩
    (.seq .n (.seq (.seq .n (.dup (.seq .n .n) .n)) (.seq (.seq .n (.one (.loop [0, 11] [(.exit 0, [0]), (.ret, [2])] (.seq .n (.seq (.dup .n .n) (.one (.seq .n (.seq .n (.dup (.seq .n .n) .n))))))))) (.seq (.one (.seq .n (.dup (.seq .n .n) (.seq .n (.dup (.seq .n .n) .n))))) (.seq .n .n))))) 1 (fun args h => by kernel_rfl)
/-- (*roundhouse/world.World).submit -/
noncomputable def F35 (S : FS) (D : FD) (args : List AV) (h : Heap) : Option (Bool × AV × Heap) :=
 kv2 args fun w_1 o_2 =>
 knt o_2 (Heap.pushK h (.cells (AV.cells o_2) true 42) fun h3 =>
 ob (knil w_1) fun v4 =>
 ob (kfa 1 v4) fun v5 =>
 ob (kload h3 v5) fun v6 =>
 ob (kfa 4 (.ptr (Heap.next h) 0)) fun v7 =>
 ob (kloadN 2 h3 v7) fun v8 =>
 ob (S 61 [v6, v8] h3) fun r9 => kres r9 (fun v10 h11 =>
 ob (aextract v10 0) fun v14 =>
 ob (aextract v10 1) fun v15 =>
 ob (kbinI .neq v15 (.int .i64 (.ofNat 0))) fun v16 =>
 kif v16
  ((some (false, (.bool false), h11)))
  (ob (kfa 4 (.ptr (Heap.next h) 0)) fun v17 =>
  ob (kfa 0 v17) fun v18 =>
  ob (kload h11 v18) fun v19 =>
  ob (kfa 4 (.ptr (Heap.next h) 0)) fun v20 =>
  ob (kfa 1 v20) fun v21 =>
  ob (kload h11 v21) fun v22 =>
  kfree h11 (Heap.pushK h11 (.cells [AV.nilslice, AV.nilslice] true 40) fun h23 =>
  ob (S 33 [v19] h23) fun r24 => kres r24 (fun v25 h26 =>
  kro (Heap.next h11) h23 h26 (kre (kload h26 v21) v22 (ob (S 62 [v22] h26) fun r29 => kres r29 (fun v30 h31 =>
  kro (Heap.next h11) h23 h31 (ob (abuild Tryz.prog 40 [(0, v25), (1, v30)]) fun v34 =>
  ob (kstore 2 (.ptr (Heap.next h11) 0) v34 h31) fun h35 =>
  ob (kfa 1 (.ptr (Heap.next h11) 0)) fun v36 =>
  ob (kload h35 v36) fun v37 =>
  ob (klenL v37) fun v38 =>
  ob (iterD (fun vs39 ds40 h41 => kv4 vs39 fun w_42 j_43 v44 v45 =>
   ob (kbinI .lss v45 v44) fun v46 =>
   kif v46
    (ob (kfa 1 j_43) fun v47 =>
    ob (kload h41 v47) fun v48 =>
    ob (kfa 1 j_43) fun v49 =>
    ob (kload h41 v49) fun v50 =>
    ob (kia 5 v50 v45) fun v51 =>
    ob (kfa 4 v51) fun v52 =>
    ob (kload h41 v52) fun v53 =>
    ob (S 63 [v53] h41) fun r54 => kres r54 (fun v55 h56 =>
    kre (kload h56 v47) v48 (ob (kia 5 v48 v45) fun v59 =>
    ob (kfa 4 v59) fun v60 =>
    ob (kstore 1 v60 v55 h56) fun h61 =>
    ob (kbinI .add v45 (.int .i64 (.ofNat 1))) fun v62 =>
    (some ⟨0, [w_42, j_43, v44, v62], ds40, h61⟩))) (fun p57 h58 => none))
    ((some ⟨1, [w_42, j_43], ds40, h41⟩))) rounds [w_1, (.ptr (Heap.next h11) 0), v38, (.int .i64 (.ofNat 0))] [] h35) fun r63 => kcase (J.i r63) [kv2 (J.vs r63) fun w_64 j_65 =>
   ob (knil w_64) fun v66 =>
   ob (kfa 4 v66) fun v67 =>
   ob (kload (J.h r63) v67) fun v68 =>
   ob (kloadN 2 (J.h r63) j_65) fun v69 =>
   kfree (J.h r63) (ob (abuildSlice Tryz.prog 45 1 [(0, v69)]) fun r70 => Heap.pushK (J.h r63) (.cells r70.1 true r70.2.2) fun h71 =>
   ob (aappend Tryz.prog h71 45 45 v68 (.slice (Heap.next (J.h r63)) 0 1 1 r70.2.1)) fun r72 =>
   ob (knil w_64) fun v73 =>
   ob (kfa 4 v73) fun v74 =>
   ob (kstore 1 v74 r72.1 r72.2) fun h75 =>
   (dleave (fun h76 => (some (false, (.bool true), h76))) (J.ds r63) h75)),
  kv1 (J.vs r63) fun p77 => (kds (J.ds r63) (some (true, p77, (J.h r63))))])) (fun p32 h33 => none)))) (fun p27 h28 => none)))) (fun p12 h13 => (some (true, p12, h13))))
theorem F35_ok {S : FS} {D : FD} (hS : SpecsOK Tryz.prog S) (hD : DynOK Tryz.prog D) : SpecOK Tryz.prog 35 (F35 S D) :=
  SpecOK.of (c := match Tryz.f35.body with | some c => c | none => .skip) (by kernel_rfl) hS hD ⟨Tryz.func35, rfl, by decide⟩
    (.seq .n (.seq (.seq .n (.seq .n (.dup (.seq .n .n) .n))) (.seq .n (.seq (.seq .n (.one (.loop [0, 7, 32, 33] [(.exit 0, [0, 7]), (.pan, [])] (.seq .n (.seq (.dup .n .n) (.seq (.one (.seq .n .n)) .n)))))) (.seq .n (.seq .n .n)))))) 2 (fun args h => by kernel_rfl)
/-- (*roundhouse/world.World).tick -/
noncomputable def F36 (S : FS) (D : FD) (args : List AV) (h : Heap) : Option (Bool × AV × Heap) :=
 kv2 args fun w_1 v2 =>
 knt v2 (Heap.pushK h (.cells (AV.cells v2) true 42) fun h3 =>
 ob (knil w_1) fun v4 =>
 ob (kfa 3 v4) fun v5 =>
 ob (kload h3 v5) fun v6 =>
 ob (kbinI .geq v6 (.int .i64 (.ofNat 1048576))) fun v7 =>
 kif v7
  ((some (false, (.bool false), h3)))
  (ob (knil w_1) fun v8 =>
  ob (kfa 3 v8) fun v9 =>
  ob (kload h3 v9) fun v10 =>
  ob (kbinI .add v10 (.int .i64 (.ofNat 1))) fun v11 =>
  ob (knil w_1) fun v12 =>
  ob (kfa 3 v12) fun v13 =>
  ob (kstore 1 v13 v11 h3) fun h14 =>
  ob (knil w_1) fun v15 =>
  ob (kfa 0 v15) fun v16 =>
  ob (kload h14 v16) fun v17 =>
  ob (klenL v17) fun v18 =>
  ob (iterD (fun vs19 ds20 h21 => kv4 vs19 fun w_22 v23 v24 v25 =>
   ob (kbinI .lss v25 v24) fun v26 =>
   kif v26
    (ob (kia 1 v23 v25) fun v27 =>
    ob (kload h21 v27) fun v28 =>
    ob (knil w_22) fun v29 =>
    ob (kfa 3 v29) fun v30 =>
    ob (kload h21 v30) fun v31 =>
    ob (S 64 [v28, v31] h21) fun r32 => kres r32 (fun v33 h34 =>
    ob (kbinI .add v25 (.int .i64 (.ofNat 1))) fun v37 =>
    (some ⟨0, [w_22, v23, v24, v37], ds20, h34⟩)) (fun p35 h36 => (some ⟨2, [p35], ds20, h36⟩)))
    ((some ⟨1, [], ds20, h21⟩))) rounds [w_1, v17, v18, (.int .i64 (.ofNat 0))] [] h14) fun r38 => kcase (J.i r38) [kv0 (J.vs r38) ((dleave (fun h39 => (some (false, (.bool true), h39))) (J.ds r38) (J.h r38))),
  kv1 (J.vs r38) fun p40 => (kds (J.ds r38) (some (true, p40, (J.h r38))))]))
theorem F36_ok {S : FS} {D : FD} (hS : SpecsOK Tryz.prog S) (hD : DynOK Tryz.prog D) : SpecOK Tryz.prog 36 (F36 S D) :=
  SpecOK.of (c := match Tryz.f36.body with | some c => c | none => .skip) (by kernel_rfl) hS hD ⟨Tryz.func36, rfl, by decide⟩
    (.seq .n (.seq (.seq .n (.dup (.seq .n .n) .n)) (.seq .n (.seq (.seq .n (.one (.loop [0, 22, 23, 24] [(.exit 0, []), (.pan, [])] (.seq .n (.seq (.dup .n .n) (.seq (.one (.seq .n .n)) .n)))))) (.seq .n .n))))) 2 (fun args h => by kernel_rfl)
/-- (*roundhouse/world.World).send -/
noncomputable def F37 (S : FS) (D : FD) (args : List AV) (h : Heap) : Option (Bool × AV × Heap) :=
 kv2 args fun w_1 v2 =>
 knt v2 (Heap.pushK h (.cells (AV.cells v2) true 42) fun h3 =>
 ob (knil w_1) fun v4 =>
 ob (kfa 2 v4) fun v5 =>
 ob (kload h3 v5) fun v6 =>
 ob (knil w_1) fun v7 =>
 ob (kfa 1 v7) fun v8 =>
 ob (kload h3 v8) fun v9 =>
 ob (knil w_1) fun v10 =>
 ob (kfa 3 v10) fun v11 =>
 ob (kload h3 v11) fun v12 =>
 ob (S 66 [v9, v12] h3) fun r13 => kres r13 (fun v14 h15 =>
 kre (kload h15 v5) v6 (ob (S 65 [v6, v14] h15) fun r18 => kres r18 (fun v19 h20 =>
 (some (false, (.bool true), h20))) (fun p21 h22 => (some (true, p21, h22))))) (fun p16 h17 => none))
theorem F37_ok {S : FS} {D : FD} (hS : SpecsOK Tryz.prog S) (hD : DynOK Tryz.prog D) : SpecOK Tryz.prog 37 (F37 S D) :=
  SpecOK.of (c := match Tryz.f37.body with | some c => c | none => .skip) (by kernel_rfl) hS hD ⟨Tryz.func37, rfl, by decide⟩
    (.seq .n (.seq .n (.seq .n .n))) 2 (fun args h => by kernel_rfl)
/-- (*roundhouse/world.World).whole -/
noncomputable def F38 (S : FS) (D : FD) (args : List AV) (h : Heap) : Option (Bool × AV × Heap) :=
 kv2 args fun w_1 o_2 =>
 knt o_2 (Heap.pushK h (.cells (AV.cells o_2) true 42) fun h3 =>
 ob (kfa 1 (.ptr (Heap.next h) 0)) fun v4 =>
 ob (kload h3 v4) fun v5 =>
 ob (kfa 2 (.ptr (Heap.next h) 0)) fun v6 =>
 ob (kload h3 v6) fun v7 =>
 ob (kfa 3 (.ptr (Heap.next h) 0)) fun v8 =>
 ob (kload h3 v8) fun v9 =>
 ob (kbinI .sub v9 (.int .i64 (.ofNat 1))) fun v10 =>
 ob (abuild Tryz.prog 154 [(0, v7), (1, v10), (2, (.int .i64 (.negSucc 0)))]) fun v11 =>
 ob (S 67 [w_1, v5, v11] h3) fun r12 => kres r12 (fun v13 h14 =>
 (some (false, v13, h14))) (fun p15 h16 => (some (true, p15, h16))))
theorem F38_ok {S : FS} {D : FD} (hS : SpecsOK Tryz.prog S) (hD : DynOK Tryz.prog D) : SpecOK Tryz.prog 38 (F38 S D) :=
  SpecOK.of (c := match Tryz.f38.body with | some c => c | none => .skip) (by kernel_rfl) hS hD ⟨Tryz.func38, rfl, by decide⟩
    (.seq .n (.seq .n .n)) 2 (fun args h => by kernel_rfl)
/-- (*roundhouse/world.World).torn -/
noncomputable def F39 (S : FS) (D : FD) (args : List AV) (h : Heap) : Option (Bool × AV × Heap) :=
 kv2 args fun w_1 o_2 =>
 knt o_2 (Heap.pushK h (.cells (AV.cells o_2) true 42) fun h3 =>
 ob (kfa 1 (.ptr (Heap.next h) 0)) fun v4 =>
 ob (kload h3 v4) fun v5 =>
 ob (kfa 2 (.ptr (Heap.next h) 0)) fun v6 =>
 ob (kload h3 v6) fun v7 =>
 ob (amaxs true [v7, (.int .i64 (.ofNat 0))]) fun v8 =>
 ob (abuild Tryz.prog 154 [(1, (.int .i64 (.negSucc 0))), (2, v8)]) fun v9 =>
 ob (S 67 [w_1, v5, v9] h3) fun r10 => kres r10 (fun v11 h12 =>
 (some (false, v11, h12))) (fun p13 h14 => (some (true, p13, h14))))
theorem F39_ok {S : FS} {D : FD} (hS : SpecsOK Tryz.prog S) (hD : DynOK Tryz.prog D) : SpecOK Tryz.prog 39 (F39 S D) :=
  SpecOK.of (c := match Tryz.f39.body with | some c => c | none => .skip) (by kernel_rfl) hS hD ⟨Tryz.func39, rfl, by decide⟩
    (.seq .n (.seq .n .n)) 2 (fun args h => by kernel_rfl)
/-- (*roundhouse/world.World).drop -/
noncomputable def F40 (S : FS) (D : FD) (args : List AV) (h : Heap) : Option (Bool × AV × Heap) :=
 kv2 args fun w_1 o_2 =>
 knt o_2 (Heap.pushK h (.cells (AV.cells o_2) true 42) fun h3 =>
 ob (knil w_1) fun v4 =>
 ob (kfa 2 v4) fun v5 =>
 ob (kload h3 v5) fun v6 =>
 ob (kfa 1 (.ptr (Heap.next h) 0)) fun v7 =>
 ob (kload h3 v7) fun v8 =>
 ob (S 68 [v6, v8] h3) fun r9 => kres r9 (fun v10 h11 =>
 (some (false, v10, h11))) (fun p12 h13 => (some (true, p12, h13))))
theorem F40_ok {S : FS} {D : FD} (hS : SpecsOK Tryz.prog S) (hD : DynOK Tryz.prog D) : SpecOK Tryz.prog 40 (F40 S D) :=
  SpecOK.of (c := match Tryz.f40.body with | some c => c | none => .skip) (by kernel_rfl) hS hD ⟨Tryz.func40, rfl, by decide⟩
    (.seq .n (.seq .n .n)) 2 (fun args h => by kernel_rfl)
/-- (*roundhouse/world.World).twice -/
noncomputable def F41 (S : FS) (D : FD) (args : List AV) (h : Heap) : Option (Bool × AV × Heap) :=
 kv2 args fun w_1 o_2 =>
 knt o_2 (Heap.pushK h (.cells (AV.cells o_2) true 42) fun h3 =>
 ob (knil w_1) fun v4 =>
 ob (kfa 2 v4) fun v5 =>
 ob (kload h3 v5) fun v6 =>
 ob (kfa 1 (.ptr (Heap.next h) 0)) fun v7 =>
 ob (kload h3 v7) fun v8 =>
 ob (S 69 [v6, v8] h3) fun r9 => kres r9 (fun v10 h11 =>
 (some (false, v10, h11))) (fun p12 h13 => (some (true, p12, h13))))
theorem F41_ok {S : FS} {D : FD} (hS : SpecsOK Tryz.prog S) (hD : DynOK Tryz.prog D) : SpecOK Tryz.prog 41 (F41 S D) :=
  SpecOK.of (c := match Tryz.f41.body with | some c => c | none => .skip) (by kernel_rfl) hS hD ⟨Tryz.func41, rfl, by decide⟩
    (.seq .n (.seq .n .n)) 2 (fun args h => by kernel_rfl)
/-- (*roundhouse/world.World).exitWhole -/
noncomputable def F42 (S : FS) (D : FD) (args : List AV) (h : Heap) : Option (Bool × AV × Heap) :=
 kv2 args fun w_1 o_2 =>
 knt o_2 (Heap.pushK h (.cells (AV.cells o_2) true 42) fun h3 =>
 ob (kloadN 6 h3 (.ptr (Heap.next h) 0)) fun v4 =>
 ob (kfa 3 (.ptr (Heap.next h) 0)) fun v5 =>
 ob (kload h3 v5) fun v6 =>
 ob (S 71 [v6, (.int .i64 (.ofNat 256))] h3) fun r7 => kres r7 (fun v8 h9 =>
 kre (kloadN 6 h9 (.ptr (Heap.next h) 0)) v4 (ob (S 70 [w_1, v4, v8, (.int .i64 (.negSucc 0))] h9) fun r12 => kres r12 (fun v13 h14 =>
 (some (false, v13, h14))) (fun p15 h16 => (some (true, p15, h16))))) (fun p10 h11 => none))
theorem F42_ok {S : FS} {D : FD} (hS : SpecsOK Tryz.prog S) (hD : DynOK Tryz.prog D) : SpecOK Tryz.prog 42 (F42 S D) :=
  SpecOK.of (c := match Tryz.f42.body with | some c => c | none => .skip) (by kernel_rfl) hS hD ⟨Tryz.func42, rfl, by decide⟩
    (.seq .n (.seq .n .n)) 2 (fun args h => by kernel_rfl)
/-- (*roundhouse/world.World).exitTorn -/
noncomputable def F43 (S : FS) (D : FD) (args : List AV) (h : Heap) : Option (Bool × AV × Heap) :=
 kv2 args fun w_1 o_2 =>
 knt o_2 (Heap.pushK h (.cells (AV.cells o_2) true 42) fun h3 =>
 ob (kloadN 6 h3 (.ptr (Heap.next h) 0)) fun v4 =>
 ob (kfa 3 (.ptr (Heap.next h) 0)) fun v5 =>
 ob (kload h3 v5) fun v6 =>
 ob (amaxs true [v6, (.int .i64 (.ofNat 0))]) fun v7 =>
 ob (S 70 [w_1, v4, (.int .i64 (.ofNat 0)), v7] h3) fun r8 => kres r8 (fun v9 h10 =>
 (some (false, v9, h10))) (fun p11 h12 => (some (true, p11, h12))))
theorem F43_ok {S : FS} {D : FD} (hS : SpecsOK Tryz.prog S) (hD : DynOK Tryz.prog D) : SpecOK Tryz.prog 43 (F43 S D) :=
  SpecOK.of (c := match Tryz.f43.body with | some c => c | none => .skip) (by kernel_rfl) hS hD ⟨Tryz.func43, rfl, by decide⟩
    (.seq .n (.seq .n .n)) 2 (fun args h => by kernel_rfl)
/-- (*roundhouse/world.World).crash -/
noncomputable def F44 (S : FS) (D : FD) (args : List AV) (h : Heap) : Option (Bool × AV × Heap) :=
 kv2 args fun w_1 o_2 =>
 knt o_2 (Heap.pushK h (.cells (AV.cells o_2) true 42) fun h3 =>
 ob (kfa 1 (.ptr (Heap.next h) 0)) fun v4 =>
 ob (kload h3 v4) fun v5 =>
 ob (S 72 [w_1, v5] h3) fun r6 => kres r6 (fun v7 h8 =>
 ob (S 10 [v7] h8) fun r11 => kres r11 (fun v12 h13 =>
 ob (aun .not v12) fun v16 =>
 ob (kfa 1 (.ptr (Heap.next h) 0)) fun v17 =>
 ob (kload h13 v17) fun v18 =>
 ob (S 72 [w_1, v18] h13) fun r19 => kres r19 (fun v20 h21 =>
 ob (S 73 [v20] h21) fun r24 => kres r24 (fun v25 h26 =>
 (some (false, v16, h26))) (fun p27 h28 => (some (true, p27, h28)))) (fun p22 h23 => (some (true, p22, h23)))) (fun p14 h15 => (some (true, p14, h15)))) (fun p9 h10 => (some (true, p9, h10))))
theorem F44_ok {S : FS} {D : FD} (hS : SpecsOK Tryz.prog S) (hD : DynOK Tryz.prog D) : SpecOK Tryz.prog 44 (F44 S D) :=
  SpecOK.of (c := match Tryz.f44.body with | some c => c | none => .skip) (by kernel_rfl) hS hD ⟨Tryz.func44, rfl, by decide⟩
    (.seq .n (.seq .n (.seq .n (.seq .n .n)))) 2 (fun args h => by kernel_rfl)
/-- (*roundhouse/world.World).recover -/
noncomputable def F45 (S : FS) (D : FD) (args : List AV) (h : Heap) : Option (Bool × AV × Heap) :=
 kv2 args fun w_1 o_2 =>
 knt o_2 (Heap.pushK h (.cells (AV.cells o_2) true 42) fun h3 =>
 ob (kfa 1 (.ptr (Heap.next h) 0)) fun v4 =>
 ob (kload h3 v4) fun v5 =>
 ob (S 72 [w_1, v5] h3) fun r6 => kres r6 (fun v7 h8 =>
 ob (S 10 [v7] h8) fun r11 => kres r11 (fun v12 h13 =>
 ob (knil w_1) fun v16 =>
 ob (kfa 2 v16) fun v17 =>
 ob (kload h13 v17) fun v18 =>
 ob (kfa 1 (.ptr (Heap.next h) 0)) fun v19 =>
 ob (kload h13 v19) fun v20 =>
 ob (S 72 [w_1, v20] h13) fun r21 => kres r21 (fun v22 h23 =>
 kre (kload h23 v17) v18 (ob (S 74 [v22] h23) fun r26 => kres r26 (fun v27 h28 =>
 kre (kload h28 v17) v18 (ob (S 65 [v18, v27] h28) fun r31 => kres r31 (fun v32 h33 =>
 ob (kfa 1 (.ptr (Heap.next h) 0)) fun v36 =>
 ob (kload h33 v36) fun v37 =>
 ob (knil w_1) fun v38 =>
 ob (kfa 3 v38) fun v39 =>
 ob (kload h33 v39) fun v40 =>
 ob (S 72 [w_1, v37] h33) fun r41 => kres r41 (fun v42 h43 =>
 kre (kload h43 v39) v40 (ob (S 64 [v42, v40] h43) fun r46 => kres r46 (fun v47 h48 =>
 (some (false, v12, h48))) (fun p49 h50 => (some (true, p49, h50))))) (fun p44 h45 => none)) (fun p34 h35 => (some (true, p34, h35))))) (fun p29 h30 => none))) (fun p24 h25 => none)) (fun p14 h15 => (some (true, p14, h15)))) (fun p9 h10 => (some (true, p9, h10))))
theorem F45_ok {S : FS} {D : FD} (hS : SpecsOK Tryz.prog S) (hD : DynOK Tryz.prog D) : SpecOK Tryz.prog 45 (F45 S D) :=
  SpecOK.of (c := match Tryz.f45.body with | some c => c | none => .skip) (by kernel_rfl) hS hD ⟨Tryz.func45, rfl, by decide⟩
    (.seq .n (.seq .n (.seq .n (.seq .n (.seq .n .n))))) 2 (fun args h => by kernel_rfl)
/-- (*roundhouse/world.World).cancel -/
noncomputable def F46 (S : FS) (D : FD) (args : List AV) (h : Heap) : Option (Bool × AV × Heap) :=
 kv2 args fun w_1 o_2 =>
 knt o_2 (Heap.pushK h (.cells (AV.cells o_2) true 42) fun h3 =>
 ob (knil w_1) fun v4 =>
 ob (kfa 1 v4) fun v5 =>
 ob (kload h3 v5) fun v6 =>
 ob (kfa 1 (.ptr (Heap.next h) 0)) fun v7 =>
 ob (kload h3 v7) fun v8 =>
 ob (S 75 [v6, v8] h3) fun r9 => kres r9 (fun v10 h11 =>
 ob (kbinI .eql v10 (.int .i64 (.ofNat 0))) fun v14 =>
 (some (false, v14, h11))) (fun p12 h13 => (some (true, p12, h13))))
theorem F46_ok {S : FS} {D : FD} (hS : SpecsOK Tryz.prog S) (hD : DynOK Tryz.prog D) : SpecOK Tryz.prog 46 (F46 S D) :=
  SpecOK.of (c := match Tryz.f46.body with | some c => c | none => .skip) (by kernel_rfl) hS hD ⟨Tryz.func46, rfl, by decide⟩
    (.seq .n (.seq .n .n)) 2 (fun args h => by kernel_rfl)
/-- (*roundhouse/agent.Agent).Log -/
noncomputable def F48 (S : FS) (D : FD) (args : List AV) (h : Heap) : Option (Bool × AV × Heap) :=
 kv1 args fun a_1 =>
 ob (kbinO Tryz.prog .eql 35 true a_1 AV.nilptr) fun v2 =>
 kif v2
  ((some (false, (.str 0 0), h)))
  (ob (knil a_1) fun v3 =>
  ob (kfa 0 v3) fun v4 =>
  ob (kfa 0 v4) fun v5 =>
  ob (kload h v5) fun v6 =>
  (some (false, v6, h)))
theorem F48_ok {S : FS} {D : FD} (hS : SpecsOK Tryz.prog S) (hD : DynOK Tryz.prog D) : SpecOK Tryz.prog 48 (F48 S D) :=
  SpecOK.of (c := match Tryz.f48.body with | some c => c | none => .skip) (by kernel_rfl) hS hD ⟨Tryz.func48, rfl, by decide⟩
    (.seq .n (.seq (.seq .n (.dup (.seq .n .n) .n)) (.seq .n .n))) 1 (fun args h => by kernel_rfl)
/-- roundhouse/rec.Decode -/
noncomputable def F49 (S : FS) (D : FD) (args : List AV) (h : Heap) : Option (Bool × AV × Heap) :=
 kv1 args fun s_1 =>
 Heap.pushK h (.cells [(.int .i64 (.ofNat 0)), (.int .i64 (.ofNat 0)), (.int .i64 (.ofNat 0)), (.int .i64 (.ofNat 0)), (.int .i64 (.ofNat 0)), AV.nilslice] true 120) fun h2 =>
 ob (S 77 [s_1] h2) fun r3 => kres r3 (fun v4 h5 =>
 ob (S 78 [v4] h5) fun r8 => kres r8 (fun v9 h10 =>
 ob (S 78 [v4] h10) fun r13 => kres r13 (fun v14 h15 =>
 ob (S 78 [v4] h15) fun r18 => kres r18 (fun v19 h20 =>
 ob (S 78 [v4] h20) fun r23 => kres r23 (fun v24 h25 =>
 ob (S 78 [v4] h25) fun r28 => kres r28 (fun v29 h30 =>
 ob (S 79 [v4, (.int .i64 (.ofNat 256))] h30) fun r33 => kres r33 (fun v34 h35 =>
 ob (abuild Tryz.prog 120 [(0, v9), (1, v14), (2, v19), (3, v24), (4, v29), (5, v34)]) fun v38 =>
 Heap.pushK h35 (.cells [(.int .i64 (.ofNat 0)), (.int .i64 (.ofNat 0)), (.int .i64 (.ofNat 0)), (.int .i64 (.ofNat 0)), (.int .i64 (.ofNat 0)), AV.nilslice] true 120) fun h39 =>
 ob (kstore 6 (.ptr (Heap.next h35) 0) v38 h39) fun h40 =>
 ob (S 80 [v4] h40) fun r41 => kres r41 (fun v42 h43 =>
 ob (aextract v42 0) fun v46 =>
 ob (aextract v42 1) fun v47 =>
 ob (kbinI .neq v46 (.int .i64 (.ofNat 0))) fun v48 =>
 kif v48
  (ob (abuild Tryz.prog 120 []) fun v49 =>
  ob (kstore 6 (.ptr (Heap.next h) 0) v49 h43) fun h50 =>
  ob (kloadN 6 h50 (.ptr (Heap.next h) 0)) fun v51 => (some (false, (.tuple [v51, v46]), h50)))
  (ob (kloadN 6 h43 (.ptr (Heap.next h35) 0)) fun v52 =>
  ob (S 81 [v52] h43) fun r53 => kres r53 (fun v54 h55 =>
  ob (aun .not v54) fun v58 =>
  kif v58
   (ob (abuild Tryz.prog 120 []) fun v59 =>
   ob (kstore 6 (.ptr (Heap.next h) 0) v59 h55) fun h60 =>
   ob (kloadN 6 h60 (.ptr (Heap.next h) 0)) fun v61 => (some (false, (.tuple [v61, (.int .i64 (.ofNat 5))]), h60)))
   (ob (kloadN 6 h55 (.ptr (Heap.next h35) 0)) fun v62 =>
   ob (kstore 6 (.ptr (Heap.next h) 0) v62 h55) fun h63 =>
   ob (kloadN 6 h63 (.ptr (Heap.next h) 0)) fun v64 => (some (false, (.tuple [v64, (.int .i64 (.ofNat 0))]), h63)))) (fun p56 h57 => (some (true, p56, h57))))) (fun p44 h45 => (some (true, p44, h45)))) (fun p36 h37 => (some (true, p36, h37)))) (fun p31 h32 => (some (true, p31, h32)))) (fun p26 h27 => (some (true, p26, h27)))) (fun p21 h22 => (some (true, p21, h22)))) (fun p16 h17 => (some (true, p16, h17)))) (fun p11 h12 => (some (true, p11, h12)))) (fun p6 h7 => (some (true, p6, h7)))
theorem F49_ok {S : FS} {D : FD} (hS : SpecsOK Tryz.prog S) (hD : DynOK Tryz.prog D) : SpecOK Tryz.prog 49 (F49 S D) :=
  SpecOK.of (c := match Tryz.f49.body with | some c => c | none => .skip) (by kernel_rfl) hS hD ⟨Tryz.func49, rfl, by decide⟩
    (.seq .n (.seq .n (.seq .n (.seq (.seq .n (.seq .n (.dup (.seq .n .n) .n))) (.seq (.seq .n (.dup (.seq .n .n) .n)) (.seq .n .n)))))) 1 (fun args h => by kernel_rfl)
/-- roundhouse/world.goes -/
noncomputable def F50 (S : FS) (D : FD) (args : List AV) (h : Heap) : Option (Bool × AV × Heap) :=
 kv1 args fun vote_1 =>
 ob (kbinI .eql vote_1 (.int .i64 (.ofNat 1))) fun v2 =>
 ob (kgv false v2 (some vote_1)) fun v3 =>
 ob (kgv false v2 (kbinI .eql v3 (.int .i64 (.ofNat 3)))) fun v4 =>
 ob (kpick v2 (.bool true) v4) fun v5 =>
 (some (false, v5, h))
theorem F50_ok {S : FS} {D : FD} (hS : SpecsOK Tryz.prog S) (hD : DynOK Tryz.prog D) : SpecOK Tryz.prog 50 (F50 S D) :=
  SpecOK.of (c := match Tryz.f50.body with | some c => c | none => .skip) (by kernel_rfl) hS hD ⟨Tryz.func50, rfl, by decide⟩
    (.seq .n (.seq .n .n)) 1 (fun args h => by kernel_rfl)
/-- (*roundhouse/procs.Table).List -/
noncomputable def F51 (S : FS) (D : FD) (args : List AV) (h : Heap) : Option (Bool × AV × Heap) :=
 kv1 args fun t_1 =>
 ob (kbinO Tryz.prog .eql 66 true t_1 AV.nilptr) fun v2 =>
 kif v2
  ((some (false, AV.nilslice, h)))
  (ob (knil t_1) fun v3 =>
  ob (kfa 0 v3) fun v4 =>
  ob (kload h v4) fun v5 =>
  ob (S 83 [v5] h) fun r6 => kres r6 (fun v7 h8 =>
  ob (S 82 [v7] h8) fun r11 => kres r11 (fun v12 h13 =>
  ob (klenL v12) fun v16 =>
  ob (iterD (fun vs17 ds18 h19 => kv5 vs17 fun t_20 l_21 v22 v23 v24 =>
   ob (kbinI .lss v24 v23) fun v25 =>
   kif v25
    (ob (kia 1 v22 v24) fun v26 =>
    ob (kload h19 v26) fun v27 =>
    ob (knil t_20) fun v28 =>
    ob (kfa 0 v28) fun v29 =>
    ob (kload h19 v29) fun v30 =>
    ob (alookup Tryz.prog h19 172 v30 v27 false) fun v31 =>
    ob (knil v31) fun v32 =>
    ob (kfa 0 v32) fun v33 =>
    ob (kloadN 8 h19 v33) fun v34 =>
    Heap.pushK h19 (.cells [(.int .i64 (.ofNat 0)), (.int .i64 (.ofNat 0)), (.int .i64 (.ofNat 0)), (.int .i64 (.ofNat 0)), (.int .i64 (.ofNat 0)), AV.nilslice, (.int .i64 (.ofNat 0)), (.int .i64 (.ofNat 0))] true 92) fun h35 =>
    ob (kstore 8 (.ptr (Heap.next h19) 0) v34 h35) fun h36 =>
    ob (kfa 5 (.ptr (Heap.next h19) 0)) fun v37 =>
    ob (kload h36 v37) fun v38 =>
    ob (S 33 [v38] h36) fun r39 => kres r39 (fun v40 h41 =>
    ob (kfa 5 (.ptr (Heap.next h19) 0)) fun v44 =>
    ob (kstore 1 v44 v40 h41) fun h45 =>
    ob (kloadN 8 h45 (.ptr (Heap.next h19) 0)) fun v46 =>
    ob (abuildSlice Tryz.prog 89 1 [(0, v46)]) fun r47 => Heap.pushK h45 (.cells r47.1 true r47.2.2) fun h48 =>
    ob (aappend Tryz.prog h48 89 89 l_21 (.slice (Heap.next h45) 0 1 1 r47.2.1)) fun r49 =>
    ob (kbinI .add v24 (.int .i64 (.ofNat 1))) fun v50 =>
    (some ⟨0, [t_20, r49.1, v22, v23, v50], ds18, r49.2⟩)) (fun p42 h43 => (some ⟨2, [p42], ds18, h43⟩)))
    ((some ⟨1, [l_21], ds18, h19⟩))) rounds [t_1, AV.nilslice, v12, v16, (.int .i64 (.ofNat 0))] [] h13) fun r51 => kcase (J.i r51) [kv1 (J.vs r51) fun l_52 =>
   (dleave (fun h53 => (some (false, l_52, h53))) (J.ds r51) (J.h r51)),
  kv1 (J.vs r51) fun p54 => (kds (J.ds r51) (some (true, p54, (J.h r51))))]) (fun p14 h15 => (some (true, p14, h15)))) (fun p9 h10 => (some (true, p9, h10))))
theorem F51_ok {S : FS} {D : FD} (hS : SpecsOK Tryz.prog S) (hD : DynOK Tryz.prog D) : SpecOK Tryz.prog 51 (F51 S D) :=
  SpecOK.of (c := match Tryz.f51.body with | some c => c | none => .skip) (by kernel_rfl) hS hD ⟨Tryz.func51, rfl, by decide⟩
    (.seq .n (.seq (.seq .n (.dup (.seq .n .n) .n)) (.seq .n (.seq (.seq .n (.one (.loop [0, 3, 14, 15, 16] [(.exit 0, [3]), (.pan, [])] (.seq .n (.seq (.dup .n .n) (.seq (.one (.seq .n (.seq .n (.seq .n .n)))) .n)))))) (.seq .n .n))))) 1 (fun args h => by kernel_rfl)
/-- (*roundhouse/procs.Table).Signalled -/
noncomputable def F52 (S : FS) (D : FD) (args : List AV) (h : Heap) : Option (Bool × AV × Heap) :=
 kv2 args fun t_1 pid_2 =>
 ob (kbinO Tryz.prog .eql 66 true t_1 AV.nilptr) fun v3 =>
 ob (kgv false v3 (some t_1)) fun v4 =>
 ob (kgv false v3 (knil v4)) fun v5 =>
 ob (kgv false v3 (kfa 0 v5)) fun v6 =>
 ob (kgv false v3 (kload h v6)) fun v7 =>
 ob (kgv false v3 (some pid_2)) fun v8 =>
 ob (kgv false v3 (alookup Tryz.prog h 172 v7 v8 false)) fun v9 =>
 ob (kgv false v3 (kbinO Tryz.prog .eql 173 true v9 AV.nilptr)) fun v10 =>
 ob (kpick v3 (.bool true) v10) fun v11 =>
 kif v11
  ((some (false, (.int .i64 (.ofNat 0)), h)))
  (ob (knil t_1) fun v12 =>
  ob (kfa 0 v12) fun v13 =>
  ob (kload h v13) fun v14 =>
  ob (alookup Tryz.prog h 172 v14 pid_2 false) fun v15 =>
  ob (knil v15) fun v16 =>
  ob (kfa 8 v16) fun v17 =>
  ob (kload h v17) fun v18 =>
  (some (false, v18, h)))
theorem F52_ok {S : FS} {D : FD} (hS : SpecsOK Tryz.prog S) (hD : DynOK Tryz.prog D) : SpecOK Tryz.prog 52 (F52 S D) :=
  SpecOK.of (c := match Tryz.f52.body with | some c => c | none => .skip) (by kernel_rfl) hS hD ⟨Tryz.func52, rfl, by decide⟩
    (.seq .n (.seq (.seq .n (.dup (.seq .n .n) .n)) (.seq .n .n))) 2 (fun args h => by kernel_rfl)
/-- roundhouse/audit.agents -/
noncomputable def F53 (S : FS) (D : FD) (args : List AV) (h : Heap) : Option (Bool × AV × Heap) :=
 kv1 args fun w_1 =>
 ob (S 20 [w_1] h) fun r2 => kres r2 (fun v3 h4 =>
 ob (iterD (fun vs7 ds8 h9 => kv4 vs7 fun w_10 l_11 v12 v13 =>
  ob (kbinI .lss v13 v12) fun v14 =>
  kif v14
   (ob (S 15 [w_10, v13] h9) fun r15 => kres r15 (fun v16 h17 =>
   ob (abuildSlice Tryz.prog 98 1 [(0, v16)]) fun r20 => Heap.pushK h17 (.cells r20.1 true r20.2.2) fun h21 =>
   ob (aappend Tryz.prog h21 98 98 l_11 (.slice (Heap.next h17) 0 1 1 r20.2.1)) fun r22 =>
   ob (kbinI .add v13 (.int .i64 (.ofNat 1))) fun v23 =>
   (some ⟨0, [w_10, r22.1, v12, v23], ds8, r22.2⟩)) (fun p18 h19 => (some ⟨2, [p18], ds8, h19⟩)))
   ((some ⟨1, [l_11], ds8, h9⟩))) rounds [w_1, AV.nilslice, v3, (.int .i64 (.ofNat 0))] [] h4) fun r24 => kcase (J.i r24) [kv1 (J.vs r24) fun l_25 =>
  (dleave (fun h26 => (some (false, l_25, h26))) (J.ds r24) (J.h r24)),
 kv1 (J.vs r24) fun p27 => (kds (J.ds r24) (some (true, p27, (J.h r24))))]) (fun p5 h6 => (some (true, p5, h6)))
theorem F53_ok {S : FS} {D : FD} (hS : SpecsOK Tryz.prog S) (hD : DynOK Tryz.prog D) : SpecOK Tryz.prog 53 (F53 S D) :=
  SpecOK.of (c := match Tryz.f53.body with | some c => c | none => .skip) (by kernel_rfl) hS hD ⟨Tryz.func53, rfl, by decide⟩
    (.seq .n (.seq .n (.seq (.seq .n (.one (.loop [0, 3, 6, 7] [(.exit 0, [3]), (.pan, [])] (.seq .n (.seq (.dup .n .n) (.seq (.one (.seq .n .n)) .n)))))) (.seq .n .n)))) 1 (fun args h => by kernel_rfl)
/-- roundhouse/agent.in -/
noncomputable def F54 (S : FS) (D : FD) (args : List AV) (h : Heap) : Option (Bool × AV × Heap) :=
 kv3 args fun n_1 least_2 most_3 =>
 ob (kbinI .geq n_1 least_2) fun v4 =>
 ob (kgv true v4 (some n_1)) fun v5 =>
 ob (kgv true v4 (some most_3)) fun v6 =>
 ob (kgv true v4 (kbinI .leq v5 v6)) fun v7 =>
 ob (kpick v4 v7 (.bool false)) fun v8 =>
 (some (false, v8, h))
theorem F54_ok {S : FS} {D : FD} (hS : SpecsOK Tryz.prog S) (hD : DynOK Tryz.prog D) : SpecOK Tryz.prog 54 (F54 S D) :=
  SpecOK.of (c := match Tryz.f54.body with | some c => c | none => .skip) (by kernel_rfl) hS hD ⟨Tryz.func54, rfl, by decide⟩
    (.seq .n (.seq .n .n)) 3 (fun args h => by kernel_rfl)
/-- roundhouse/cores.Check -/
noncomputable def F55 (S : FS) (D : FD) (args : List AV) (h : Heap) : Option (Bool × AV × Heap) :=
 kv1 args fun l_1 =>
 knt l_1 (Heap.pushK h (.cells (AV.cells l_1) true 54) fun h2 =>
 ob (kloadN 2 h2 (.ptr (Heap.next h) 0)) fun v3 =>
 ob (S 84 [v3] h2) fun r4 => kres r4 (fun v5 h6 =>
 ob (aun .not v5) fun v9 =>
 kif v9
  ((some (false, (.int .i64 (.ofNat 1)), h6)))
  ((some (false, (.int .i64 (.ofNat 0)), h6)))) (fun p7 h8 => (some (true, p7, h8))))
theorem F55_ok {S : FS} {D : FD} (hS : SpecsOK Tryz.prog S) (hD : DynOK Tryz.prog D) : SpecOK Tryz.prog 55 (F55 S D) :=
  SpecOK.of (c := match Tryz.f55.body with | some c => c | none => .skip) (by kernel_rfl) hS hD ⟨Tryz.func55, rfl, by decide⟩
    (.seq .n (.seq (.seq .n (.dup (.seq .n .n) .n)) (.seq .n .n))) 1 (fun args h => by kernel_rfl)
/-- roundhouse/procs.New -/
noncomputable def F56 (S : FS) (D : FD) (args : List AV) (h : Heap) : Option (Bool × AV × Heap) :=
 kv0 args (Heap.pushK h (.map [] [] 0) fun h1 =>
 ob (abuild Tryz.prog 175 [(0, (.map (Heap.next h)))]) fun v2 =>
 knt v2 (Heap.pushK h1 (.cells (AV.cells v2) true 175) fun h3 =>
 (some (false, (.ptr (Heap.next h1) 0), h3))))
theorem F56_ok {S : FS} {D : FD} (hS : SpecsOK Tryz.prog S) (hD : DynOK Tryz.prog D) : SpecOK Tryz.prog 56 (F56 S D) :=
  SpecOK.of (c := match Tryz.f56.body with | some c => c | none => .skip) (by kernel_rfl) hS hD ⟨Tryz.func56, rfl, by decide⟩
    (.seq .n (.seq .n .n)) 0 (fun args h => by kernel_rfl)
/-- roundhouse/acct.New -/
noncomputable def F57 (S : FS) (D : FD) (args : List AV) (h : Heap) : Option (Bool × AV × Heap) :=
 kv0 args (Heap.pushK h (.map [] [] 0) fun h1 =>
 ob (abuild Tryz.prog 179 [(0, (.map (Heap.next h)))]) fun v2 =>
 knt v2 (Heap.pushK h1 (.cells (AV.cells v2) true 179) fun h3 =>
 (some (false, (.ptr (Heap.next h1) 0), h3))))
theorem F57_ok {S : FS} {D : FD} (hS : SpecsOK Tryz.prog S) (hD : DynOK Tryz.prog D) : SpecOK Tryz.prog 57 (F57 S D) :=
  SpecOK.of (c := match Tryz.f57.body with | some c => c | none => .skip) (by kernel_rfl) hS hD ⟨Tryz.func57, rfl, by decide⟩
    (.seq .n (.seq .n .n)) 0 (fun args h => by kernel_rfl)
/-- (*roundhouse/agent.Agent).fresh -/
noncomputable def F58 (S : FS) (D : FD) (args : List AV) (h : Heap) : Option (Bool × AV × Heap) :=
 kv1 args fun a_1 =>
 ob (abuild Tryz.prog 76 []) fun v2 =>
 ob (knil a_1) fun v3 =>
 ob (kfa 5 v3) fun v4 =>
 ob (kfa 1 v4) fun v5 =>
 ob (kloadN 2 h v5) fun v6 =>
 ob (S 85 [v6] h) fun r7 => kres r7 (fun v8 h9 =>
 ob (S 86 [(.int .i64 (.ofNat 64))] h9) fun r12 => kres r12 (fun v13 h14 =>
 Heap.pushK h14 (.map [] [] 0) fun h17 =>
 ob (knil a_1) fun v18 =>
 ob (kfa 12 v18) fun v19 =>
 ob (kstore 3 v19 v2 h17) fun h20 =>
 ob (knil a_1) fun v21 =>
 ob (kfa 15 v21) fun v22 =>
 ob (kstore 1 v22 v8 h20) fun h23 =>
 ob (knil a_1) fun v24 =>
 ob (kfa 16 v24) fun v25 =>
 ob (kstore 1 v25 v13 h23) fun h26 =>
 ob (knil a_1) fun v27 =>
 ob (kfa 17 v27) fun v28 =>
 ob (kstore 1 v28 (.map (Heap.next h14)) h26) fun h29 =>
 (some (false, (.tuple []), h29))) (fun p15 h16 => (some (true, p15, h16)))) (fun p10 h11 => (some (true, p10, h11)))
theorem F58_ok {S : FS} {D : FD} (hS : SpecsOK Tryz.prog S) (hD : DynOK Tryz.prog D) : SpecOK Tryz.prog 58 (F58 S D) :=
  SpecOK.of (c := match Tryz.f58.body with | some c => c | none => .skip) (by kernel_rfl) hS hD ⟨Tryz.func58, rfl, by decide⟩
    .n 1 (fun args h => by kernel_rfl)
/-- roundhouse/tally.silent[bool] -/
noncomputable def F59 (S : FS) (D : FD) (args : List AV) (h : Heap) : Option (Bool × AV × Heap) :=
 kv2 args fun nodes_1 m_2 =>
 knt m_2 (Heap.pushK h (.cells (AV.cells m_2) true 137) fun h3 =>
 ob (S 33 [nodes_1] h3) fun r4 => kres r4 (fun v5 h6 =>
 ob (S 87 [v5, (.func 88 [(.ptr (Heap.next h) 0)])] h6) fun r9 => kres r9 (fun v10 h11 =>
 (some (false, v10, h11))) (fun p12 h13 => (some (true, p12, h13)))) (fun p7 h8 => (some (true, p7, h8))))
theorem F59_ok {S : FS} {D : FD} (hS : SpecsOK Tryz.prog S) (hD : DynOK Tryz.prog D) : SpecOK Tryz.prog 59 (F59 S D) :=
  SpecOK.of (c := match Tryz.f59.body with | some c => c | none => .skip) (by kernel_rfl) hS hD ⟨Tryz.func59, rfl, by decide⟩
    (.seq .n (.seq .n .n)) 2 (fun args h => by kernel_rfl)
/-- roundhouse/tally.silent[int] -/
noncomputable def F60 (S : FS) (D : FD) (args : List AV) (h : Heap) : Option (Bool × AV × Heap) :=
 kv2 args fun nodes_1 m_2 =>
 knt m_2 (Heap.pushK h (.cells (AV.cells m_2) true 138) fun h3 =>
 ob (S 33 [nodes_1] h3) fun r4 => kres r4 (fun v5 h6 =>
 ob (S 87 [v5, (.func 89 [(.ptr (Heap.next h) 0)])] h6) fun r9 => kres r9 (fun v10 h11 =>
 (some (false, v10, h11))) (fun p12 h13 => (some (true, p12, h13)))) (fun p7 h8 => (some (true, p7, h8))))
theorem F60_ok {S : FS} {D : FD} (hS : SpecsOK Tryz.prog S) (hD : DynOK Tryz.prog D) : SpecOK Tryz.prog 60 (F60 S D) :=
  SpecOK.of (c := match Tryz.f60.body with | some c => c | none => .skip) (by kernel_rfl) hS hD ⟨Tryz.func60, rfl, by decide⟩
    (.seq .n (.seq .n .n)) 2 (fun args h => by kernel_rfl)
/-- (*roundhouse/ctl.Ctl).Submit -/
noncomputable def F61 (S : FS) (D : FD) (args : List AV) (h : Heap) : Option (Bool × AV × Heap) :=
 kv2 args fun c_1 j_2 =>
 knt j_2 (Heap.pushK h (.cells (AV.cells j_2) true 40) fun h3 =>
 ob (kfa 1 (.ptr (Heap.next h) 0)) fun v4 =>
 ob (kload h3 v4) fun v5 =>
 ob (S 91 [v5] h3) fun r6 => kres r6 (fun v7 h8 =>
 ob (kbinO Tryz.prog .eql 61 true c_1 AV.nilptr) fun v11 =>
 ob (kgv false v11 (kfa 0 (.ptr (Heap.next h) 0))) fun v12 =>
 ob (kgv false v11 (kload h8 v12)) fun v13 =>
 ob (kgc false v11 h8 (S 92 [v13] h8)) fun r14 => kres r14 (fun v15 h16 =>
 ob (kgv false v11 (aun .not v15)) fun v19 =>
 ob (kpick v11 (.bool true) v19) fun v20 =>
 kif v20
  ((some (false, (.tuple [(.int .i64 (.ofNat 0)), (.int .i64 (.ofNat 1))]), h16)))
  (ob (kbinI .neq v7 (.int .i64 (.ofNat 0))) fun v21 =>
  kif v21
   ((some (false, (.tuple [(.int .i64 (.ofNat 0)), v7]), h16)))
   (ob (kfa 1 (.ptr (Heap.next h) 0)) fun v22 =>
   ob (kload h16 v22) fun v23 =>
   ob (S 93 [v23, (.func 90 [])] h16) fun r24 => kres r24 (fun v25 h26 =>
   kif v25
    ((some (false, (.tuple [(.int .i64 (.ofNat 0)), (.int .i64 (.ofNat 1))]), h26)))
    (ob (knil c_1) fun v29 =>
    ob (kfa 1 v29) fun v30 =>
    ob (kload h26 v30) fun v31 =>
    ob (klenL v31) fun v32 =>
    ob (kbinI .eql v32 (.int .i64 (.ofNat 16))) fun v33 =>
    kif v33
     ((some (false, (.tuple [(.int .i64 (.ofNat 0)), (.int .i64 (.ofNat 6))]), h26)))
     (ob (kfa 0 (.ptr (Heap.next h) 0)) fun v34 =>
     ob (kload h26 v34) fun v35 =>
     ob (kfa 1 (.ptr (Heap.next h) 0)) fun v36 =>
     ob (kload h26 v36) fun v37 =>
     ob (knil c_1) fun v38 =>
     ob (kfa 1 v38) fun v39 =>
     ob (kload h26 v39) fun v40 =>
     ob (klenL v40) fun v41 =>
     ob (kbinI .add v41 (.int .i64 (.ofNat 1))) fun v42 =>
     ob (S 33 [v35] h26) fun r43 => kres r43 (fun v44 h45 =>
     kre (kload h45 v39) v40 (kre (kload h45 v36) v37 (ob (S 62 [v37] h45) fun r48 => kres r48 (fun v49 h50 =>
     kre (kload h50 v39) v40 (ob (abuild Tryz.prog 40 [(0, v44), (1, v49)]) fun v53 =>
     ob (abuild Tryz.prog 110 [(0, v53), (1, v42)]) fun v54 =>
     kfree h50 (knt v54 (Heap.pushK h50 (.cells (AV.cells v54) true 110) fun h55 =>
     ob (knil (.ptr (Heap.next h50) 0)) fun v56 =>
     ob (kfa 0 v56) fun v57 =>
     ob (kfa 1 v57) fun v58 =>
     ob (kload h55 v58) fun v59 =>
     ob (klenL v59) fun v60 =>
     ob (iterD (fun vs61 ds62 h63 => kv4 vs61 fun c_64 x_65 v66 v67 =>
      ob (kbinI .lss v67 v66) fun v68 =>
      kif v68
       (ob (knil x_65) fun v69 =>
       ob (kfa 0 v69) fun v70 =>
       ob (kfa 1 v70) fun v71 =>
       ob (kload h63 v71) fun v72 =>
       ob (knil x_65) fun v73 =>
       ob (kfa 0 v73) fun v74 =>
       ob (kfa 1 v74) fun v75 =>
       ob (kload h63 v75) fun v76 =>
       ob (kia 5 v76 v67) fun v77 =>
       ob (kfa 4 v77) fun v78 =>
       ob (kload h63 v78) fun v79 =>
       ob (S 63 [v79] h63) fun r80 => kres r80 (fun v81 h82 =>
       kre (kload h82 v71) v72 (ob (kia 5 v72 v67) fun v85 =>
       ob (kfa 4 v85) fun v86 =>
       ob (kstore 1 v86 v81 h82) fun h87 =>
       ob (kbinI .add v67 (.int .i64 (.ofNat 1))) fun v88 =>
       (some ⟨0, [c_64, x_65, v66, v88], ds62, h87⟩))) (fun p83 h84 => none))
       ((some ⟨1, [c_64, x_65], ds62, h63⟩))) rounds [c_1, (.ptr (Heap.next h50) 0), v60, (.int .i64 (.ofNat 0))] [] h55) fun r89 => kcase (J.i r89) [kv2 (J.vs r89) fun c_90 x_91 =>
      ob (S 94 [x_91] (J.h r89)) fun r92 => kres r92 (fun v93 h94 =>
      ob (knil c_90) fun v97 =>
      ob (kfa 1 v97) fun v98 =>
      ob (kload h94 v98) fun v99 =>
      ob (abuildSlice Tryz.prog 127 1 [(0, x_91)]) fun r100 => Heap.pushK h94 (.cells r100.1 true r100.2.2) fun h101 =>
      ob (aappend Tryz.prog h101 127 127 v99 (.slice (Heap.next h94) 0 1 1 r100.2.1)) fun r102 =>
      ob (knil c_90) fun v103 =>
      ob (kfa 1 v103) fun v104 =>
      ob (kstore 1 v104 r102.1 r102.2) fun h105 =>
      ob (knil x_91) fun v106 =>
      ob (kfa 2 v106) fun v107 =>
      ob (kload h105 v107) fun v108 =>
      (dleave (fun h109 => (some (false, (.tuple [v108, (.int .i64 (.ofNat 0))]), h109))) (J.ds r89) h105)) (fun p95 h96 => (kds (J.ds r89) (some (true, p95, h96)))),
     kv1 (J.vs r89) fun p110 => (kds (J.ds r89) (some (true, p110, (J.h r89))))])))) (fun p51 h52 => none)))) (fun p46 h47 => none)))) (fun p27 h28 => (some (true, p27, h28)))))) (fun p17 h18 => (some (true, p17, h18)))) (fun p9 h10 => (some (true, p9, h10))))
theorem F61_ok {S : FS} {D : FD} (hS : SpecsOK Tryz.prog S) (hD : DynOK Tryz.prog D) : SpecOK Tryz.prog 61 (F61 S D) :=
  SpecOK.of (c := match Tryz.f61.body with | some c => c | none => .skip) (by kernel_rfl) hS hD ⟨Tryz.func61, rfl, by decide⟩
    (.seq .n (.seq .n (.seq .n (.seq (.one (.seq .n (.dup (.seq .n .n) (.seq .n (.dup (.seq .n .n) (.seq .n (.dup (.seq .n .n) (.seq .n (.dup (.seq .n .n) .n))))))))) (.seq .n (.seq (.seq .n (.one (.loop [0, 8, 58, 59] [(.exit 1, [0, 8]), (.pan, [])] (.seq .n (.seq (.dup .n .n) (.seq (.one (.seq .n .n)) .n)))))) (.seq .n (.seq .n (.seq .n .n))))))))) 2 (fun args h => by kernel_rfl)
/-- slices.Clone[[]roundhouse/api.Step,roundhouse/api.Step] -/
noncomputable def F62 (S : FS) (D : FD) (args : List AV) (h : Heap) : Option (Bool × AV × Heap) :=
 kv1 args fun s_1 =>
 ob (kbinO Tryz.prog .eql 38 true s_1 AV.nilslice) fun v2 =>
 kif v2
  ((some (false, AV.nilslice, h)))
  (ob (abuildSlice Tryz.prog 38 0 []) fun r3 => Heap.pushK h (.cells r3.1 true r3.2.2) fun h4 =>
  ob (aappend Tryz.prog h4 38 38 (.slice (Heap.next h) 0 0 0 r3.2.1) s_1) fun r5 =>
  (some (false, r5.1, r5.2)))
theorem F62_ok {S : FS} {D : FD} (hS : SpecsOK Tryz.prog S) (hD : DynOK Tryz.prog D) : SpecOK Tryz.prog 62 (F62 S D) :=
  SpecOK.of (c := match Tryz.f62.body with | some c => c | none => .skip) (by kernel_rfl) hS hD ⟨Tryz.func62, rfl, by decide⟩
    (.seq .n (.seq (.seq .n (.dup (.seq .n .n) .n)) (.seq .n .n))) 1 (fun args h => by kernel_rfl)
/-- slices.Clone[[]roundhouse/api.Edge,roundhouse/api.Edge] -/
noncomputable def F63 (S : FS) (D : FD) (args : List AV) (h : Heap) : Option (Bool × AV × Heap) :=
 kv1 args fun s_1 =>
 ob (kbinO Tryz.prog .eql 48 true s_1 AV.nilslice) fun v2 =>
 kif v2
  ((some (false, AV.nilslice, h)))
  (ob (abuildSlice Tryz.prog 48 0 []) fun r3 => Heap.pushK h (.cells r3.1 true r3.2.2) fun h4 =>
  ob (aappend Tryz.prog h4 48 48 (.slice (Heap.next h) 0 0 0 r3.2.1) s_1) fun r5 =>
  (some (false, r5.1, r5.2)))
theorem F63_ok {S : FS} {D : FD} (hS : SpecsOK Tryz.prog S) (hD : DynOK Tryz.prog D) : SpecOK Tryz.prog 63 (F63 S D) :=
  SpecOK.of (c := match Tryz.f63.body with | some c => c | none => .skip) (by kernel_rfl) hS hD ⟨Tryz.func63, rfl, by decide⟩
    (.seq .n (.seq (.seq .n (.dup (.seq .n .n) .n)) (.seq .n .n))) 1 (fun args h => by kernel_rfl)
/-- (*roundhouse/net.Net).Send -/
noncomputable def F65 (S : FS) (D : FD) (args : List AV) (h : Heap) : Option (Bool × AV × Heap) :=
 kv2 args fun n_1 l_2 =>
 ob (kbinO Tryz.prog .eql 99 true n_1 AV.nilptr) fun v3 =>
 kif v3
  ((some (false, (.int .i64 (.ofNat 0)), h)))
  (ob (klenL l_2) fun v4 =>
  ob (knil n_1) fun v5 =>
  ob (kfa 0 v5) fun v6 =>
  ob (kload h v6) fun v7 =>
  ob (knil n_1) fun v8 =>
  ob (kfa 2 v8) fun v9 =>
  ob (kload h v9) fun v10 =>
  ob (klenL v10) fun v11 =>
  ob (kbinI .sub v7 v11) fun v12 =>
  ob (amaxs false [v4, v12]) fun v13 =>
  ob (knil n_1) fun v14 =>
  ob (kfa 2 v14) fun v15 =>
  ob (kload h v15) fun v16 =>
  ob (aslice Tryz.prog 130 l_2 none (some v13) none) fun v17 =>
  ob (aappend Tryz.prog h 130 130 v16 v17) fun r18 =>
  ob (knil n_1) fun v19 =>
  ob (kfa 2 v19) fun v20 =>
  ob (kstore 1 v20 r18.1 r18.2) fun h21 =>
  ob (knil n_1) fun v22 =>
  ob (kfa 1 v22) fun v23 =>
  ob (kload h21 v23) fun v24 =>
  ob (klenL l_2) fun v25 =>
  ob (kbinI .sub v25 v13) fun v26 =>
  ob (kbinI .add v24 v26) fun v27 =>
  ob (knil n_1) fun v28 =>
  ob (kfa 1 v28) fun v29 =>
  ob (kstore 1 v29 v27 h21) fun h30 =>
  (some (false, v13, h30)))
theorem F65_ok {S : FS} {D : FD} (hS : SpecsOK Tryz.prog S) (hD : DynOK Tryz.prog D) : SpecOK Tryz.prog 65 (F65 S D) :=
  SpecOK.of (c := match Tryz.f65.body with | some c => c | none => .skip) (by kernel_rfl) hS hD ⟨Tryz.func65, rfl, by decide⟩
    (.seq .n (.seq (.seq .n (.dup (.seq .n .n) .n)) (.seq .n (.seq .n (.seq .n (.seq .n .n)))))) 2 (fun args h => by kernel_rfl)
/-- (*roundhouse/world.World).deliver -/
noncomputable def F67 (S : FS) (D : FD) (args : List AV) (h : Heap) : Option (Bool × AV × Heap) :=
 kv3 args fun w_1 at_2 c_3 =>
 knt c_3 (Heap.pushK h (.cells (AV.cells c_3) true 154) fun h4 =>
 ob (knil w_1) fun v5 =>
 ob (kfa 2 v5) fun v6 =>
 ob (kload h4 v6) fun v7 =>
 ob (S 101 [v7, at_2] h4) fun r8 => kres r8 (fun v9 h10 =>
 ob (aextract v9 0) fun v13 =>
 ob (aextract v9 1) fun v14 =>
 ob (aun .not v14) fun v15 =>
 kif v15
  ((some (false, (.bool false), h10)))
  (ob (S 102 [v13] h10) fun r16 => kres r16 (fun v17 h18 =>
  ob (aextract v17 0) fun v21 =>
  ob (aextract v17 1) fun v22 =>
  Heap.pushK h18 (.cells [(.int .i64 (.ofNat 0)), (.int .i64 (.ofNat 0)), (.int .i64 (.ofNat 0)), (.int .i64 (.ofNat 0)), (.int .i64 (.ofNat 0)), (.int .i64 (.ofNat 0)), (.int .i64 (.ofNat 0)), (.str 0 0)] true 205) fun h23 =>
  ob (kstore 8 (.ptr (Heap.next h18) 0) v21 h23) fun h24 =>
  ob (kbinI .neq v22 (.int .i64 (.ofNat 0))) fun v25 =>
  ob (kif v25
   ((some ⟨0, [], [], h24⟩))
   (ob (kfa 2 (.ptr (Heap.next h18) 0)) fun v27 =>
   ob (kload h24 v27) fun v28 =>
   ob (kbinI .eql v28 (.int .i64 (.negSucc 0))) fun v29 =>
   ob (kif v29
    (ob (knil w_1) fun v31 =>
    ob (kfa 1 v31) fun v32 =>
    ob (kload h24 v32) fun v33 =>
    ob (S 103 [v33, v13] h24) fun r34 => kres r34 (fun v35 h36 =>
    (some ⟨0, [], [], h36⟩)) (fun p37 h38 => (some ⟨1, [p37], [], h38⟩)))
    (ob (knil w_1) fun v39 =>
    ob (kfa 2 v39) fun v40 =>
    ob (kload h24 v40) fun v41 =>
    ob (kfa 2 (.ptr (Heap.next h18) 0)) fun v42 =>
    ob (kload h24 v42) fun v43 =>
    ob (kloadN 3 h24 (.ptr (Heap.next h) 0)) fun v44 =>
    ob (S 15 [w_1, v43] h24) fun r45 => kres r45 (fun v46 h47 =>
    kre (kloadN 3 h47 (.ptr (Heap.next h) 0)) v44 (kre (kload h47 v40) v41 (ob (S 104 [v46, v13, v44] h47) fun r50 => kres r50 (fun v51 h52 =>
    kre (kload h52 v40) v41 (ob (S 65 [v41, v51] h52) fun r55 => kres r55 (fun v56 h57 =>
    (some ⟨0, [], [], h57⟩)) (fun p58 h59 => (some ⟨1, [p58], [], h59⟩)))) (fun p53 h54 => none)))) (fun p48 h49 => none))) fun r30 => kcase (J.i r30) [kv0 (J.vs r30) ((some ⟨0, [], (J.ds r30), (J.h r30)⟩)),
   kv1 (J.vs r30) fun p60 => (some ⟨1, [p60], (J.ds r30), (J.h r30)⟩)])) fun r26 => kcase (J.i r26) [kv0 (J.vs r26) ((dleave (fun h61 => (some (false, (.bool true), h61))) (J.ds r26) (J.h r26))),
  kv1 (J.vs r26) fun p62 => (kds (J.ds r26) (some (true, p62, (J.h r26))))]) (fun p19 h20 => (some (true, p19, h20))))) (fun p11 h12 => (some (true, p11, h12))))
theorem F67_ok {S : FS} {D : FD} (hS : SpecsOK Tryz.prog S) (hD : DynOK Tryz.prog D) : SpecOK Tryz.prog 67 (F67 S D) :=
  SpecOK.of (c := match Tryz.f67.body with | some c => c | none => .skip) (by kernel_rfl) hS hD ⟨Tryz.func67, rfl, by decide⟩
    (.seq .n (.seq .n (.seq (.seq .n (.dup (.seq .n .n) .n)) (.seq .n (.seq (.one (.seq .n (.join [(.norm, []), (.pan, [])] (.dup .n (.seq .n (.join [(.norm, []), (.pan, [])] (.dup .n .n))))))) (.seq .n .n)))))) 3 (fun args h => by kernel_rfl)
/-- (*roundhouse/net.Net).Drop -/
noncomputable def F68 (S : FS) (D : FD) (args : List AV) (h : Heap) : Option (Bool × AV × Heap) :=
 kv2 args fun n_1 i_2 =>
 ob (S 101 [n_1, i_2] h) fun r3 => kres r3 (fun v4 h5 =>
 ob (aextract v4 0) fun v8 =>
 ob (aextract v4 1) fun v9 =>
 ob (kif v9
  (ob (knil n_1) fun v11 =>
  ob (kfa 1 v11) fun v12 =>
  ob (kload h5 v12) fun v13 =>
  ob (kbinI .add v13 (.int .i64 (.ofNat 1))) fun v14 =>
  ob (knil n_1) fun v15 =>
  ob (kfa 1 v15) fun v16 =>
  ob (kstore 1 v16 v14 h5) fun h17 =>
  (some ⟨0, [v9], [], h17⟩))
  ((some ⟨0, [v9], [], h5⟩))) fun r10 => kcase (J.i r10) [kv1 (J.vs r10) fun is_18 =>
  (dleave (fun h19 => (some (false, is_18, h19))) (J.ds r10) (J.h r10))]) (fun p6 h7 => (some (true, p6, h7)))
theorem F68_ok {S : FS} {D : FD} (hS : SpecsOK Tryz.prog S) (hD : DynOK Tryz.prog D) : SpecOK Tryz.prog 68 (F68 S D) :=
  SpecOK.of (c := match Tryz.f68.body with | some c => c | none => .skip) (by kernel_rfl) hS hD ⟨Tryz.func68, rfl, by decide⟩
    (.seq .n (.seq .n (.seq (.seq .n (.join [(.norm, [6])] (.dup .n .n))) (.seq .n .n)))) 2 (fun args h => by kernel_rfl)
/-- (*roundhouse/net.Net).Twice -/
noncomputable def F69 (S : FS) (D : FD) (args : List AV) (h : Heap) : Option (Bool × AV × Heap) :=
 kv2 args fun n_1 i_2 =>
 ob (S 105 [n_1, i_2] h) fun r3 => kres r3 (fun v4 h5 =>
 ob (kbinI .lss v4 (.int .i64 (.ofNat 0))) fun v8 =>
 ob (kgv false v8 (some n_1)) fun v9 =>
 ob (kgv false v8 (knil v9)) fun v10 =>
 ob (kgv false v8 (kfa 2 v10)) fun v11 =>
 ob (kgv false v8 (kload h5 v11)) fun v12 =>
 ob (kgv false v8 (klenL v12)) fun v13 =>
 ob (kgv false v8 (some n_1)) fun v14 =>
 ob (kgv false v8 (knil v14)) fun v15 =>
 ob (kgv false v8 (kfa 0 v15)) fun v16 =>
 ob (kgv false v8 (kload h5 v16)) fun v17 =>
 ob (kgv false v8 (kbinI .geq v13 v17)) fun v18 =>
 ob (kpick v8 (.bool true) v18) fun v19 =>
 kif v19
  ((some (false, (.bool false), h5)))
  (ob (knil n_1) fun v20 =>
  ob (kfa 2 v20) fun v21 =>
  ob (kload h5 v21) fun v22 =>
  ob (kia 1 v22 v4) fun v23 =>
  ob (kload h5 v23) fun v24 =>
  ob (abuildSlice Tryz.prog 130 1 [(0, v24)]) fun r25 => Heap.pushK h5 (.cells r25.1 true r25.2.2) fun h26 =>
  ob (S 65 [n_1, (.slice (Heap.next h5) 0 1 1 r25.2.1)] h26) fun r27 => kres r27 (fun v28 h29 =>
  (some (false, (.bool true), h29))) (fun p30 h31 => (some (true, p30, h31))))) (fun p6 h7 => (some (true, p6, h7)))
theorem F69_ok {S : FS} {D : FD} (hS : SpecsOK Tryz.prog S) (hD : DynOK Tryz.prog D) : SpecOK Tryz.prog 69 (F69 S D) :=
  SpecOK.of (c := match Tryz.f69.body with | some c => c | none => .skip) (by kernel_rfl) hS hD ⟨Tryz.func69, rfl, by decide⟩
    (.seq .n (.seq .n (.seq (.seq .n (.dup (.seq .n .n) .n)) (.seq .n (.seq .n .n))))) 2 (fun args h => by kernel_rfl)
/-- (*roundhouse/world.World).exit -/
noncomputable def F70 (S : FS) (D : FD) (args : List AV) (h : Heap) : Option (Bool × AV × Heap) :=
 kv4 args fun w_1 o_2 code_3 tear_4 =>
 knt o_2 (Heap.pushK h (.cells (AV.cells o_2) true 42) fun h5 =>
 ob (kfa 1 (.ptr (Heap.next h) 0)) fun v6 =>
 ob (kload h5 v6) fun v7 =>
 ob (S 72 [w_1, v7] h5) fun r8 => kres r8 (fun v9 h10 =>
 ob (S 24 [v9] h10) fun r13 => kres r13 (fun v14 h15 =>
 ob (S 106 [v14, (.func 107 [])] h15) fun r18 => kres r18 (fun v19 h20 =>
 ob (klenL v19) fun v23 =>
 ob (kbinI .eql v23 (.int .i64 (.ofNat 0))) fun v24 =>
 ob (kgv false v24 (some v9)) fun v25 =>
 ob (kgc false v24 h20 (S 10 [v25] h20)) fun r26 => kres r26 (fun v27 h28 =>
 ob (kpick v24 (.bool true) v27) fun v31 =>
 kif v31
  ((some (false, (.bool false), h28)))
  (ob (knil w_1) fun v32 =>
  ob (kfa 2 v32) fun v33 =>
  ob (kload h28 v33) fun v34 =>
  ob (kfa 2 (.ptr (Heap.next h) 0)) fun v35 =>
  ob (kload h28 v35) fun v36 =>
  ob (klenL v19) fun v37 =>
  ob (S 71 [v36, v37] h28) fun r38 => kres r38 (fun v39 h40 =>
  kre (kload h40 v33) v34 (ob (kia 8 v19 v39) fun v43 =>
  ob (kfa 0 v43) fun v44 =>
  ob (kload h40 v44) fun v45 =>
  ob (S 108 [v9, v45, code_3, tear_4] h40) fun r46 => kres r46 (fun v47 h48 =>
  kre (kload h48 v33) v34 (ob (S 65 [v34, v47] h48) fun r51 => kres r51 (fun v52 h53 =>
  (some (false, (.bool true), h53))) (fun p54 h55 => (some (true, p54, h55))))) (fun p49 h50 => none))) (fun p41 h42 => none))) (fun p29 h30 => (some (true, p29, h30)))) (fun p21 h22 => (some (true, p21, h22)))) (fun p16 h17 => (some (true, p16, h17)))) (fun p11 h12 => (some (true, p11, h12))))
theorem F70_ok {S : FS} {D : FD} (hS : SpecsOK Tryz.prog S) (hD : DynOK Tryz.prog D) : SpecOK Tryz.prog 70 (F70 S D) :=
  SpecOK.of (c := match Tryz.f70.body with | some c => c | none => .skip) (by kernel_rfl) hS hD ⟨Tryz.func70, rfl, by decide⟩
    (.seq .n (.seq .n (.seq .n (.seq (.seq .n (.dup (.seq .n .n) .n)) (.seq .n (.seq .n .n)))))) 4 (fun args h => by kernel_rfl)
/-- roundhouse/world.place -/
noncomputable def F71 (S : FS) (D : FD) (args : List AV) (h : Heap) : Option (Bool × AV × Heap) :=
 kv2 args fun i_1 n_2 =>
 ob (kbinI .rem i_1 n_2) fun v3 =>
 ob (kbinI .add v3 n_2) fun v4 =>
 ob (kbinI .rem v4 n_2) fun v5 =>
 (some (false, v5, h))
theorem F71_ok {S : FS} {D : FD} (hS : SpecsOK Tryz.prog S) (hD : DynOK Tryz.prog D) : SpecOK Tryz.prog 71 (F71 S D) :=
  SpecOK.of (c := match Tryz.f71.body with | some c => c | none => .skip) (by kernel_rfl) hS hD ⟨Tryz.func71, rfl, by decide⟩
    (.seq .n (.seq .n .n)) 2 (fun args h => by kernel_rfl)
/-- (*roundhouse/world.World).node -/
noncomputable def F72 (S : FS) (D : FD) (args : List AV) (h : Heap) : Option (Bool × AV × Heap) :=
 kv2 args fun w_1 i_2 =>
 ob (knil w_1) fun v3 =>
 ob (kfa 0 v3) fun v4 =>
 ob (kload h v4) fun v5 =>
 ob (knil w_1) fun v6 =>
 ob (kfa 0 v6) fun v7 =>
 ob (kload h v7) fun v8 =>
 ob (klenL v8) fun v9 =>
 ob (S 71 [i_2, v9] h) fun r10 => kres r10 (fun v11 h12 =>
 kre (kload h12 v4) v5 (ob (kia 1 v5 v11) fun v15 =>
 ob (kload h12 v15) fun v16 =>
 (some (false, v16, h12)))) (fun p13 h14 => none)
theorem F72_ok {S : FS} {D : FD} (hS : SpecsOK Tryz.prog S) (hD : DynOK Tryz.prog D) : SpecOK Tryz.prog 72 (F72 S D) :=
  SpecOK.of (c := match Tryz.f72.body with | some c => c | none => .skip) (by kernel_rfl) hS hD ⟨Tryz.func72, rfl, by decide⟩
    (.seq .n (.seq .n .n)) 2 (fun args h => by kernel_rfl)
/-- (*roundhouse/agent.Agent).Crash -/
noncomputable def F73 (S : FS) (D : FD) (args : List AV) (h : Heap) : Option (Bool × AV × Heap) :=
 kv1 args fun a_1 =>
 ob (kbinO Tryz.prog .neq 35 true a_1 AV.nilptr) fun v2 =>
 ob (kif v2
  (ob (knil a_1) fun v4 =>
  ob (kfa 11 v4) fun v5 =>
  ob (kstore 1 v5 (.bool true) h) fun h6 =>
  ob (S 58 [a_1] h6) fun r7 => kres r7 (fun v8 h9 =>
  (some ⟨0, [], [], h9⟩)) (fun p10 h11 => (some ⟨1, [p10], [], h11⟩)))
  ((some ⟨0, [], [], h⟩))) fun r3 => kcase (J.i r3) [kv0 (J.vs r3) ((dleave (fun h12 => (some (false, (.tuple []), h12))) (J.ds r3) (J.h r3))),
 kv1 (J.vs r3) fun p13 => (kds (J.ds r3) (some (true, p13, (J.h r3))))]
theorem F73_ok {S : FS} {D : FD} (hS : SpecsOK Tryz.prog S) (hD : DynOK Tryz.prog D) : SpecOK Tryz.prog 73 (F73 S D) :=
  SpecOK.of (c := match Tryz.f73.body with | some c => c | none => .skip) (by kernel_rfl) hS hD ⟨Tryz.func73, rfl, by decide⟩
    (.seq .n (.join [(.norm, []), (.pan, [])] (.dup (.seq .n .n) .n))) 1 (fun args h => by kernel_rfl)
end Go.Rh.Tryz
