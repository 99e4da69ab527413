/- Printed by wip/tools/gen.py: functions of the program as plain functions over abstract values, each with its proof. -/
import Derived.Test.YthcebbcfaokcdaaGreatProg
import Derived.Test.YthcebbcfaokcdaaGreatRh3
set_option maxRecDepth 1000000
set_option linter.unusedVariables false
namespace Go.Rh.Tryz
open Go.Proofs
/-- roundhouse/journal.Repair -/
noncomputable def F109 (S : FS) (D : FD) (args : List AV) (h : Heap) : Option (Bool × AV × Heap) :=
 kv1 args fun log_1 =>
 ob (S 47 [log_1] h) fun r2 => kres r2 (fun v3 h4 =>
 ob (aextract v3 0) fun v7 =>
 ob (aextract v3 1) fun v8 =>
 ob (aslice Tryz.prog 9 log_1 none (some v8) none) fun v9 =>
 (some (false, v9, h4))) (fun p5 h6 => (some (true, p5, h6)))
theorem F109_ok {S : FS} {D : FD} (hS : SpecsOK Tryz.prog S) (hD : DynOK Tryz.prog D) : SpecOK Tryz.prog 109 (F109 S D) :=
  SpecOK.of (c := match Tryz.f109.body with | some c => c | none => .skip) (by kernel_rfl) hS hD ⟨Tryz.func109, rfl, by decide⟩
    (.seq .n (.seq .n (.seq .n .n))) 1 (fun args h => by kernel_rfl)
/-- roundhouse/rec.Fold -/
noncomputable def F110 (S : FS) (D : FD) (args : List AV) (h : Heap) : Option (Bool × AV × Heap) :=
 kv1 args fun l_1 =>
 Heap.pushK h (.cells [AV.nilslice, AV.nilslice, (.bool false)] true 76) fun h2 =>
 Heap.pushK h2 (.cells [AV.nilslice, AV.nilslice, (.bool false)] true 76) fun h3 =>
 ob (klenL l_1) fun v4 =>
 ob (iterD (fun vs5 ds6 h7 => kv6 vs5 fun l_8 v9 s_10 v11 v12 v13 =>
  ob (kbinI .lss v13 v12) fun v14 =>
  kif v14
   (ob (kia 6 v11 v13) fun v15 =>
   ob (kloadN 6 h7 v15) fun v16 =>
   Heap.pushK h7 (.cells [(.int .i64 (.ofNat 0)), (.int .i64 (.ofNat 0)), (.int .i64 (.ofNat 0)), (.int .i64 (.ofNat 0)), (.int .i64 (.ofNat 0)), AV.nilslice] true 120) fun h17 =>
   ob (kstore 6 (.ptr (Heap.next h7) 0) v16 h17) fun h18 =>
   ob (kloadN 3 h18 s_10) fun v19 =>
   ob (kloadN 6 h18 (.ptr (Heap.next h7) 0)) fun v20 =>
   ob (S 169 [v19, v20] h18) fun r21 => kres r21 (fun v22 h23 =>
   ob (aextract v22 0) fun v26 =>
   ob (aextract v22 1) fun v27 =>
   Heap.pushK h23 (.cells [AV.nilslice, AV.nilslice, (.bool false)] true 76) fun h28 =>
   ob (kstore 3 (.ptr (Heap.next h23) 0) v26 h28) fun h29 =>
   ob (kbinI .neq v27 (.int .i64 (.ofNat 0))) fun v30 =>
   kif v30
    (ob (kloadN 3 h29 s_10) fun v31 =>
    ob (kstore 3 v9 v31 h29) fun h32 =>
    (some ⟨2, [v9, v13], ds6, h32⟩))
    (ob (kloadN 3 h29 (.ptr (Heap.next h23) 0)) fun v33 =>
    ob (kstore 3 s_10 v33 h29) fun h34 =>
    ob (kbinI .add v13 (.int .i64 (.ofNat 1))) fun v35 =>
    (some ⟨0, [l_8, v9, s_10, v11, v12, v35], ds6, h34⟩))) (fun p24 h25 => (some ⟨3, [p24], ds6, h25⟩)))
   ((some ⟨1, [l_8, v9, s_10], ds6, h7⟩))) rounds [l_1, (.ptr (Heap.next h) 0), (.ptr (Heap.next h2) 0), l_1, v4, (.int .i64 (.ofNat 0))] [] h3) fun r36 => kcase (J.i r36) [kv3 (J.vs r36) fun l_37 v38 s_39 =>
  ob (kloadN 3 (J.h r36) s_39) fun v40 =>
  ob (klenL l_37) fun v41 =>
  ob (kstore 3 v38 v40 (J.h r36)) fun h42 =>
  (dleave (fun h43 => ob (kloadN 3 h43 v38) fun v44 => (some (false, (.tuple [v44, v41]), h43))) (J.ds r36) h42),
 kv2 (J.vs r36) fun v45 v46 =>
  (dleave (fun h47 => ob (kloadN 3 h47 v45) fun v48 => (some (false, (.tuple [v48, v46]), h47))) (J.ds r36) (J.h r36)),
 kv1 (J.vs r36) fun p49 => (kds (J.ds r36) (some (true, p49, (J.h r36))))]
theorem F110_ok {S : FS} {D : FD} (hS : SpecsOK Tryz.prog S) (hD : DynOK Tryz.prog D) : SpecOK Tryz.prog 110 (F110 S D) :=
  SpecOK.of (c := match Tryz.f110.body with | some c => c | none => .skip) (by kernel_rfl) hS hD ⟨Tryz.func110, rfl, by decide⟩
    (.seq .n (.seq .n (.seq (.seq .n (.one (.loop [0, 2, 4, 9, 10, 11] [(.exit 0, [0, 2, 4]), (.ret, [2, 3]), (.pan, [])] (.seq .n (.seq (.dup .n .n) (.seq (.one (.seq .n (.seq .n (.seq (.seq .n (.dup (.seq .n .n) .n)) .n)))) .n)))))) (.seq .n .n)))) 1 (fun args h => by kernel_rfl)
/-- (*roundhouse/agent.Agent).adopt -/
noncomputable def F112 (S : FS) (D : FD) (args : List AV) (h : Heap) : Option (Bool × AV × Heap) :=
 kv2 args fun a_1 x_2 =>
 knt x_2 (Heap.pushK h (.cells (AV.cells x_2) true 192) fun h3 =>
 Heap.pushK h3 (.cells [(.int .u64 (.ofNat 0)), (.int .u64 (.ofNat 0)), (.int .u64 (.ofNat 0)), (.int .u64 (.ofNat 0))] true 287) fun h4 =>
 ob (kfa 5 (.ptr (Heap.next h) 0)) fun v5 =>
 ob (kload h4 v5) fun v6 =>
 ob (S 166 [a_1, v6] h4) fun r7 => kres r7 (fun v8 h9 =>
 ob (klenL v8) fun v12 =>
 ob (iterD (fun vs13 ds14 h15 => kv6 vs13 fun a_16 x_17 all_18 v19 v20 v21 =>
  ob (kbinI .lss v21 v20) fun v22 =>
  kif v22
   (ob (kia 8 v19 v21) fun v23 =>
   ob (kloadN 8 h15 v23) fun v24 =>
   Heap.pushK h15 (.cells [(.int .i64 (.ofNat 0)), (.int .i64 (.ofNat 0)), (.int .i64 (.ofNat 0)), (.int .i64 (.ofNat 0)), (.int .i64 (.ofNat 0)), AV.nilslice, (.int .i64 (.ofNat 0)), (.int .i64 (.ofNat 0))] true 92) fun h25 =>
   ob (kstore 8 (.ptr (Heap.next h15) 0) v24 h25) fun h26 =>
   ob (kfa 5 (.ptr (Heap.next h15) 0)) fun v27 =>
   ob (kload h26 v27) fun v28 =>
   ob (S 171 [v28] h26) fun r29 => kres r29 (fun v30 h31 =>
   ob (aextract v30 0) fun v34 =>
   ob (aextract v30 1) fun v35 =>
   Heap.pushK h31 (.cells [(.int .u64 (.ofNat 0)), (.int .u64 (.ofNat 0)), (.int .u64 (.ofNat 0)), (.int .u64 (.ofNat 0))] true 287) fun h36 =>
   ob (kstore 4 (.ptr (Heap.next h31) 0) v34 h36) fun h37 =>
   ob (kloadN 4 h37 all_18) fun v38 =>
   ob (kloadN 4 h37 (.ptr (Heap.next h31) 0)) fun v39 =>
   ob (S 172 [v38, v39] h37) fun r40 => kres r40 (fun v41 h42 =>
   ob (kstore 4 all_18 v41 h42) fun h45 =>
   ob (kbinI .add v21 (.int .i64 (.ofNat 1))) fun v46 =>
   (some ⟨0, [a_16, x_17, all_18, v19, v20, v46], ds14, h45⟩)) (fun p43 h44 => (some ⟨2, [p43], ds14, h44⟩))) (fun p32 h33 => (some ⟨2, [p32], ds14, h33⟩)))
   ((some ⟨1, [a_16, x_17, all_18], ds14, h15⟩))) rounds [a_1, (.ptr (Heap.next h) 0), (.ptr (Heap.next h3) 0), v8, v12, (.int .i64 (.ofNat 0))] [] h9) fun r47 => kcase (J.i r47) [kv3 (J.vs r47) fun a_48 x_49 all_50 =>
  ob (knil a_48) fun v51 =>
  ob (kfa 15 v51) fun v52 =>
  ob (kload (J.h r47) v52) fun v53 =>
  ob (kloadN 6 (J.h r47) x_49) fun v54 =>
  ob (kloadN 4 (J.h r47) all_50) fun v55 =>
  ob (S 138 [v54] (J.h r47)) fun r56 => kres r56 (fun v57 h58 =>
  kre (kloadN 4 h58 all_50) v55 (kre (kload h58 v52) v53 (ob (S 173 [v53, v57, v55] h58) fun r61 => kres r61 (fun v62 h63 =>
  ob (kfa 3 x_49) fun v66 =>
  ob (kload h63 v66) fun v67 =>
  ob (kbinI .eql v67 (.int .i64 (.ofNat 1))) fun v68 =>
  ob (kif v68
   (ob (kfa 5 x_49) fun v70 =>
   ob (kload h63 v70) fun v71 =>
   ob (S 174 [a_48, v71] h63) fun r72 => kres r72 (fun v73 h74 =>
   (some ⟨0, [], (J.ds r47), h74⟩)) (fun p75 h76 => (some ⟨1, [p75], (J.ds r47), h76⟩)))
   ((some ⟨0, [], (J.ds r47), h63⟩))) fun r69 => kcase (J.i r69) [kv0 (J.vs r69) ((dleave (fun h77 => (some (false, (.tuple []), h77))) (J.ds r69) (J.h r69))),
  kv1 (J.vs r69) fun p78 => (kds (J.ds r69) (some (true, p78, (J.h r69))))]) (fun p64 h65 => (kds (J.ds r47) (some (true, p64, h65))))))) (fun p59 h60 => none),
 kv1 (J.vs r47) fun p79 => (kds (J.ds r47) (some (true, p79, (J.h r47))))]) (fun p10 h11 => (some (true, p10, h11))))
theorem F112_ok {S : FS} {D : FD} (hS : SpecsOK Tryz.prog S) (hD : DynOK Tryz.prog D) : SpecOK Tryz.prog 112 (F112 S D) :=
  SpecOK.of (c := match Tryz.f112.body with | some c => c | none => .skip) (by kernel_rfl) hS hD ⟨Tryz.func112, rfl, by decide⟩
    (.seq .n (.seq .n (.seq (.seq .n (.one (.loop [0, 3, 4, 12, 13, 14] [(.exit 0, [0, 3, 4]), (.pan, [])] (.seq .n (.seq (.dup .n .n) (.seq (.one (.seq .n (.seq .n .n))) .n)))))) (.seq .n (.seq .n (.join [(.norm, []), (.pan, [])] (.dup .n .n))))))) 2 (fun args h => by kernel_rfl)
/-- (*roundhouse/agent.Agent).settle -/
noncomputable def F113 (S : FS) (D : FD) (args : List AV) (h : Heap) : Option (Bool × AV × Heap) :=
 kv3 args fun a_1 x_2 tear_3 =>
 knt x_2 (Heap.pushK h (.cells (AV.cells x_2) true 192) fun h4 =>
 ob (kfa 5 (.ptr (Heap.next h) 0)) fun v5 =>
 ob (kload h4 v5) fun v6 =>
 ob (S 166 [a_1, v6] h4) fun r7 => kres r7 (fun v8 h9 =>
 ob (klenL v8) fun v12 =>
 ob (iterD (fun vs13 ds14 h15 => kv7 vs13 fun a_16 tear_17 x_18 codes_19 v20 v21 v22 =>
  ob (kbinI .lss v22 v21) fun v23 =>
  kif v23
   (ob (kia 8 v20 v22) fun v24 =>
   ob (kloadN 8 h15 v24) fun v25 =>
   Heap.pushK h15 (.cells [(.int .i64 (.ofNat 0)), (.int .i64 (.ofNat 0)), (.int .i64 (.ofNat 0)), (.int .i64 (.ofNat 0)), (.int .i64 (.ofNat 0)), AV.nilslice, (.int .i64 (.ofNat 0)), (.int .i64 (.ofNat 0))] true 92) fun h26 =>
   ob (kstore 8 (.ptr (Heap.next h15) 0) v25 h26) fun h27 =>
   ob (kfa 6 (.ptr (Heap.next h15) 0)) fun v28 =>
   ob (kload h27 v28) fun v29 =>
   ob (kbinI .neq v29 (.int .i64 (.ofNat 2))) fun v30 =>
   kif v30
    ((some ⟨2, [AV.nilslice], ds14, h27⟩))
    (ob (kfa 7 (.ptr (Heap.next h15) 0)) fun v31 =>
    ob (kload h27 v31) fun v32 =>
    ob (abuildSlice Tryz.prog 37 1 [(0, v32)]) fun r33 => Heap.pushK h27 (.cells r33.1 true r33.2.2) fun h34 =>
    ob (aappend Tryz.prog h34 37 37 codes_19 (.slice (Heap.next h27) 0 1 1 r33.2.1)) fun r35 =>
    ob (kbinI .add v22 (.int .i64 (.ofNat 1))) fun v36 =>
    (some ⟨0, [a_16, tear_17, x_18, r35.1, v20, v21, v36], ds14, r35.2⟩)))
   ((some ⟨1, [a_16, tear_17, x_18, codes_19], ds14, h15⟩))) rounds [a_1, tear_3, (.ptr (Heap.next h) 0), AV.nilslice, v8, v12, (.int .i64 (.ofNat 0))] [] h9) fun r37 => kcase (J.i r37) [kv4 (J.vs r37) fun a_38 tear_39 x_40 codes_41 =>
  ob (knil a_38) fun v42 =>
  ob (kfa 5 v42) fun v43 =>
  ob (kfa 0 v43) fun v44 =>
  ob (kload (J.h r37) v44) fun v45 =>
  ob (knil a_38) fun v46 =>
  ob (kfa 12 v46) fun v47 =>
  ob (kloadN 3 (J.h r37) v47) fun v48 =>
  ob (kfa 0 x_40) fun v49 =>
  ob (kload (J.h r37) v49) fun v50 =>
  ob (kfa 1 x_40) fun v51 =>
  ob (kload (J.h r37) v51) fun v52 =>
  ob (kfa 2 x_40) fun v53 =>
  ob (kload (J.h r37) v53) fun v54 =>
  ob (abuild Tryz.prog 120 [(1, v50), (2, v52), (3, v54)]) fun v55 =>
  kfree (J.h r37) (Heap.pushK (J.h r37) (.cells [(.bool false), (.int .i64 (.ofNat 0)), (.int .i64 (.ofNat 0)), (.int .i64 (.ofNat 0)), (.int .i64 (.ofNat 0)), (.int .i64 (.ofNat 0)), AV.nilslice, (.bool false), (.int .i64 (.ofNat 0)), (.int .i64 (.ofNat 0)), (.int .i64 (.ofNat 0)), (.int .i64 (.ofNat 0)), (.int .i64 (.ofNat 0)), (.int .i64 (.ofNat 0)), (.int .i64 (.ofNat 0)), (.str 0 0), (.bool false), (.bool false), (.bool false)] true 272) fun h56 =>
  ob (S 175 [v45, v48, v55, codes_41] h56) fun r57 => kres r57 (fun v58 h59 =>
  kro (Heap.next (J.h r37)) h56 h59 (ob (aextract v58 0) fun v62 =>
  ob (aextract v58 1) fun v63 =>
  ob (kstore 19 (.ptr (Heap.next (J.h r37)) 0) v62 h59) fun h64 =>
  ob (kbinI .neq v63 (.int .i64 (.ofNat 0))) fun v65 =>
  ob (kgv false v65 (some a_38)) fun v66 =>
  ob (kgv false v65 (kfa 1 (.ptr (Heap.next (J.h r37)) 0))) fun v67 =>
  ob (kgv false v65 (kloadN 6 h64 v67)) fun v68 =>
  ob (kgv false v65 (some tear_39)) fun v69 =>
  ob (kgc false v65 h64 (S 161 [v66, v68, v69] h64)) fun r70 => kres r70 (fun v71 h72 =>
  ob (kgv false v65 (aun .not v71)) fun v75 =>
  ob (kpick v65 (.bool true) v75) fun v76 =>
  kif v76
   ((dleave (fun h77 => (some (false, AV.nilslice, h77))) (J.ds r37) h72))
   (ob (kfa 5 x_40) fun v78 =>
   ob (kload h72 v78) fun v79 =>
   ob (S 170 [a_38, v79] h72) fun r80 => kres r80 (fun v81 h82 =>
   ob (knil a_38) fun v85 =>
   ob (kfa 15 v85) fun v86 =>
   ob (kload h82 v86) fun v87 =>
   ob (kloadN 6 h82 x_40) fun v88 =>
   ob (S 138 [v88] h82) fun r89 => kres r89 (fun v90 h91 =>
   kre (kload h91 v86) v87 (ob (S 176 [v87, v90] h91) fun r94 => kres r94 (fun v95 h96 =>
   ob (kloadN 19 h96 (.ptr (Heap.next (J.h r37)) 0)) fun v99 =>
   ob (S 163 [v99] h96) fun r100 => kres r100 (fun v101 h102 =>
   (dleave (fun h105 => (some (false, v101, h105))) (J.ds r37) h102)) (fun p103 h104 => (kds (J.ds r37) (some (true, p103, h104))))) (fun p97 h98 => (kds (J.ds r37) (some (true, p97, h98)))))) (fun p92 h93 => none)) (fun p83 h84 => (kds (J.ds r37) (some (true, p83, h84)))))) (fun p73 h74 => (kds (J.ds r37) (some (true, p73, h74)))))) (fun p60 h61 => none)),
 kv1 (J.vs r37) fun v106 =>
  (dleave (fun h107 => (some (false, v106, h107))) (J.ds r37) (J.h r37))]) (fun p10 h11 => (some (true, p10, h11))))
theorem F113_ok {S : FS} {D : FD} (hS : SpecsOK Tryz.prog S) (hD : DynOK Tryz.prog D) : SpecOK Tryz.prog 113 (F113 S D) :=
  SpecOK.of (c := match Tryz.f113.body with | some c => c | none => .skip) (by kernel_rfl) hS hD ⟨Tryz.func113, rfl, by decide⟩
    (.seq .n (.seq .n (.seq (.seq .n (.one (.loop [0, 2, 4, 7, 15, 16, 17] [(.exit 0, [0, 2, 4, 7]), (.ret, [6])] (.seq .n (.seq (.dup .n .n) (.seq (.one (.seq .n (.seq (.seq .n (.dup (.seq .n .n) .n)) .n))) .n)))))) (.seq .n (.seq (.seq .n (.dup (.seq .n .n) .n)) (.seq .n (.seq .n (.seq .n .n)))))))) 3 (fun args h => by kernel_rfl)
/-- (*roundhouse/ctl.job).look -/
noncomputable def F115 (S : FS) (D : FD) (args : List AV) (h : Heap) : Option (Bool × AV × Heap) :=
 kv1 args fun x_1 =>
 ob (knil x_1) fun v2 =>
 ob (kfa 8 v2) fun v3 =>
 ob (kload h v3) fun v4 =>
 ob (klenL v4) fun v5 =>
 ob (iterD (fun vs6 ds7 h8 => kv4 vs6 fun x_9 v10 v11 v12 =>
  ob (kbinI .lss v12 v11) fun v13 =>
  kif v13
   (ob (kia 1 v10 v12) fun v14 =>
   ob (kload h8 v14) fun v15 =>
   ob (knil x_9) fun v16 =>
   ob (kfa 7 v16) fun v17 =>
   ob (kload h8 v17) fun v18 =>
   ob (kia 1 v18 v12) fun v19 =>
   ob (kload h8 v19) fun v20 =>
   ob (kbinI .neq v20 (.int .i64 (.negSucc 0))) fun v21 =>
   ob (kif v21
    ((some ⟨0, [x_9, v10, v11, v12], ds7, h8⟩))
    (ob (kbinO Tryz.prog .eql 112 true v15 AV.nilptr) fun v23 =>
    ob (kgv true v23 (some x_9)) fun v24 =>
    ob (kgv true v23 (knil v24)) fun v25 =>
    ob (kgv true v23 (kfa 11 v25)) fun v26 =>
    ob (kgv true v23 (kload h8 v26)) fun v27 =>
    ob (kpick v23 v27 (.bool false)) fun v28 =>
    ob (kif v28
     (ob (knil x_9) fun v30 =>
     ob (kfa 7 v30) fun v31 =>
     ob (kload h8 v31) fun v32 =>
     ob (kia 1 v32 v12) fun v33 =>
     ob (kstore 1 v33 (.int .i64 (.ofNat 256)) h8) fun h34 =>
     (some ⟨0, [x_9, v10, v11, v12], ds7, h34⟩))
     (ob (kbinO Tryz.prog .eql 112 true v15 AV.nilptr) fun v35 =>
     ob (kif v35
      ((some ⟨0, [x_9, v10, v11, v12], ds7, h8⟩))
      (ob (S 34 [v15] h8) fun r37 => kres r37 (fun v38 h39 =>
      ob (kbinI .eql v38 (.int .i64 (.ofNat 2))) fun v42 =>
      ob (kif v42
       (ob (knil x_9) fun v44 =>
       ob (kfa 7 v44) fun v45 =>
       ob (kload h39 v45) fun v46 =>
       ob (kia 1 v46 v12) fun v47 =>
       ob (kstore 1 v47 (.int .i64 (.ofNat 255)) h39) fun h48 =>
       (some ⟨0, [x_9, v10, v11, v12], ds7, h48⟩))
       (ob (S 34 [v15] h39) fun r49 => kres r49 (fun v50 h51 =>
       ob (kbinI .eql v50 (.int .i64 (.ofNat 3))) fun v54 =>
       ob (kif v54
        (ob (knil x_9) fun v56 =>
        ob (kfa 7 v56) fun v57 =>
        ob (kload h51 v57) fun v58 =>
        ob (S 178 [v15] h51) fun r59 => kres r59 (fun v60 h61 =>
        kre (kload h61 v57) v58 (ob (kia 1 v58 v12) fun v64 =>
        ob (kstore 1 v64 v60 h61) fun h65 =>
        (some ⟨0, [x_9, v10, v11, v12], ds7, h65⟩))) (fun p62 h63 => none))
        ((some ⟨0, [x_9, v10, v11, v12], ds7, h51⟩))) fun r55 => kcase (J.i r55) [kv4 (J.vs r55) fun x_66 v67 v68 v69 =>
        (some ⟨0, [x_66, v67, v68, v69], (J.ds r55), (J.h r55)⟩),
       kv1 (J.vs r55) fun p70 => (some ⟨1, [p70], (J.ds r55), (J.h r55)⟩)]) (fun p52 h53 => (some ⟨1, [p52], ds7, h53⟩)))) fun r43 => kcase (J.i r43) [kv4 (J.vs r43) fun x_71 v72 v73 v74 =>
       (some ⟨0, [x_71, v72, v73, v74], (J.ds r43), (J.h r43)⟩),
      kv1 (J.vs r43) fun p75 => (some ⟨1, [p75], (J.ds r43), (J.h r43)⟩)]) (fun p40 h41 => (some ⟨1, [p40], ds7, h41⟩)))) fun r36 => kcase (J.i r36) [kv4 (J.vs r36) fun x_76 v77 v78 v79 =>
      (some ⟨0, [x_76, v77, v78, v79], (J.ds r36), (J.h r36)⟩),
     kv1 (J.vs r36) fun p80 => (some ⟨1, [p80], (J.ds r36), (J.h r36)⟩)])) fun r29 => kcase (J.i r29) [kv4 (J.vs r29) fun x_81 v82 v83 v84 =>
     (some ⟨0, [x_81, v82, v83, v84], (J.ds r29), (J.h r29)⟩),
    kv1 (J.vs r29) fun p85 => (some ⟨1, [p85], (J.ds r29), (J.h r29)⟩)])) fun r22 => kcase (J.i r22) [kv4 (J.vs r22) fun x_86 v87 v88 v89 =>
    ob (kbinI .add v89 (.int .i64 (.ofNat 1))) fun v90 =>
    (some ⟨0, [x_86, v87, v88, v90], (J.ds r22), (J.h r22)⟩),
   kv1 (J.vs r22) fun p91 => (some ⟨2, [p91], (J.ds r22), (J.h r22)⟩)])
   ((some ⟨1, [x_9], ds7, h8⟩))) rounds [x_1, v4, v5, (.int .i64 (.ofNat 0))] [] h) fun r92 => kcase (J.i r92) [kv1 (J.vs r92) fun x_93 =>
  ob (knil x_93) fun v94 =>
  ob (kfa 0 v94) fun v95 =>
  ob (kfa 1 v95) fun v96 =>
  ob (kload (J.h r92) v96) fun v97 =>
  ob (knil x_93) fun v98 =>
  ob (kfa 7 v98) fun v99 =>
  ob (kload (J.h r92) v99) fun v100 =>
  ob (S 179 [v97, v100] (J.h r92)) fun r101 => kres r101 (fun v102 h103 =>
  ob (aextract v102 0) fun v106 =>
  ob (aextract v102 1) fun v107 =>
  ob (knil x_93) fun v108 =>
  ob (kfa 7 v108) fun v109 =>
  ob (kstore 1 v109 v106 h103) fun h110 =>
  ob (knil x_93) fun v111 =>
  ob (kfa 0 v111) fun v112 =>
  ob (kfa 1 v112) fun v113 =>
  ob (kload h110 v113) fun v114 =>
  ob (knil x_93) fun v115 =>
  ob (kfa 7 v115) fun v116 =>
  ob (kload h110 v116) fun v117 =>
  ob (S 180 [v114, v117] h110) fun r118 => kres r118 (fun v119 h120 =>
  ob (aextract v119 0) fun v123 =>
  ob (aextract v119 1) fun v124 =>
  ob (klenL v123) fun v125 =>
  ob (iterD (fun vs126 ds127 h128 => kv4 vs126 fun x_129 v130 v131 v132 =>
   ob (kbinI .lss v132 v131) fun v133 =>
   kif v133
    (ob (kia 1 v130 v132) fun v134 =>
    ob (kload h128 v134) fun v135 =>
    ob (knil x_129) fun v136 =>
    ob (kfa 8 v136) fun v137 =>
    ob (kload h128 v137) fun v138 =>
    ob (kia 1 v138 v135) fun v139 =>
    ob (kload h128 v139) fun v140 =>
    ob (kbinO Tryz.prog .eql 112 true v140 AV.nilptr) fun v141 =>
    ob (kif v141
     (ob (knil x_129) fun v143 =>
     ob (kfa 8 v143) fun v144 =>
     ob (kload h128 v144) fun v145 =>
     ob (knil x_129) fun v146 =>
     ob (kfa 0 v146) fun v147 =>
     ob (kfa 0 v147) fun v148 =>
     ob (kload h128 v148) fun v149 =>
     ob (S 133 [v149] h128) fun r150 => kres r150 (fun v151 h152 =>
     kre (kload h152 v144) v145 (ob (kia 1 v145 v135) fun v155 =>
     ob (kstore 1 v155 v151 h152) fun h156 =>
     (some ⟨0, [x_129, v130, v131, v132], ds127, h156⟩))) (fun p153 h154 => none))
     ((some ⟨0, [x_129, v130, v131, v132], ds127, h128⟩))) fun r142 => kcase (J.i r142) [kv4 (J.vs r142) fun x_157 v158 v159 v160 =>
     ob (kbinI .add v160 (.int .i64 (.ofNat 1))) fun v161 =>
     (some ⟨0, [x_157, v158, v159, v161], (J.ds r142), (J.h r142)⟩),
    kv1 (J.vs r142) fun p162 => (some ⟨2, [p162], (J.ds r142), (J.h r142)⟩)])
    ((some ⟨1, [x_129], ds127, h128⟩))) rounds [x_93, v123, v125, (.int .i64 (.ofNat 0))] (J.ds r92) h120) fun r163 => kcase (J.i r163) [kv1 (J.vs r163) fun x_164 =>
   ob (knil x_164) fun v165 =>
   ob (kfa 0 v165) fun v166 =>
   ob (kfa 1 v166) fun v167 =>
   ob (kload (J.h r163) v167) fun v168 =>
   ob (knil x_164) fun v169 =>
   ob (kfa 7 v169) fun v170 =>
   ob (kload (J.h r163) v170) fun v171 =>
   ob (S 181 [v168, v171] (J.h r163)) fun r172 => kres r172 (fun v173 h174 =>
   ob (aextract v173 0) fun v177 =>
   ob (aextract v173 1) fun v178 =>
   ob (aun .not v178) fun v179 =>
   ob (kif v179
    ((some ⟨0, [], (J.ds r163), h174⟩))
    (ob (knil x_164) fun v181 =>
    ob (kfa 11 v181) fun v182 =>
    ob (kload h174 v182) fun v183 =>
    ob (kgv false v183 (some v177)) fun v184 =>
    ob (kgv false v183 (kbinI .neq v184 (.int .i64 (.ofNat 0)))) fun v185 =>
    ob (kpick v183 (.bool true) v185) fun v186 =>
    ob (kif v186
     (ob (S 182 [x_164, (.int .i64 (.ofNat 1)), v177] h174) fun r188 => kres r188 (fun v189 h190 =>
     (some ⟨0, [], (J.ds r163), h190⟩)) (fun p191 h192 => (some ⟨1, [p191], (J.ds r163), h192⟩)))
     (ob (S 182 [x_164, (.int .i64 (.ofNat 0)), (.int .i64 (.ofNat 0))] h174) fun r193 => kres r193 (fun v194 h195 =>
     (some ⟨0, [], (J.ds r163), h195⟩)) (fun p196 h197 => (some ⟨1, [p196], (J.ds r163), h197⟩)))) fun r187 => kcase (J.i r187) [kv0 (J.vs r187) ((some ⟨0, [], (J.ds r187), (J.h r187)⟩)),
    kv1 (J.vs r187) fun p198 => (some ⟨1, [p198], (J.ds r187), (J.h r187)⟩)])) fun r180 => kcase (J.i r180) [kv0 (J.vs r180) ((dleave (fun h199 => (some (false, (.tuple []), h199))) (J.ds r180) (J.h r180))),
   kv1 (J.vs r180) fun p200 => (kds (J.ds r180) (some (true, p200, (J.h r180))))]) (fun p175 h176 => (kds (J.ds r163) (some (true, p175, h176)))),
  kv1 (J.vs r163) fun p201 => (kds (J.ds r163) (some (true, p201, (J.h r163))))]) (fun p121 h122 => (kds (J.ds r92) (some (true, p121, h122))))) (fun p104 h105 => none),
 kv1 (J.vs r92) fun p202 => (kds (J.ds r92) (some (true, p202, (J.h r92))))]
theorem F115_ok {S : FS} {D : FD} (hS : SpecsOK Tryz.prog S) (hD : DynOK Tryz.prog D) : SpecOK Tryz.prog 115 (F115 S D) :=
  SpecOK.of (c := match Tryz.f115.body with | some c => c | none => .skip) (by kernel_rfl) hS hD ⟨Tryz.func115, rfl, by decide⟩
    (.seq (.seq .n (.one (.loop [0, 13, 14, 15] [(.exit 0, [0]), (.pan, [])] (.seq .n (.seq (.dup .n .n) (.seq (.one (.seq .n (.one (.seq .n (.join [(.norm, [0, 13, 14, 15]), (.pan, [])] (.dup .n (.seq .n (.join [(.norm, [0, 13, 14, 15]), (.pan, [])] (.dup .n (.seq .n (.join [(.norm, [0, 13, 14, 15]), (.pan, [])] (.dup .n (.seq .n (.join [(.norm, [0, 13, 14, 15]), (.pan, [])] (.dup .n (.seq .n (.join [(.norm, [0, 13, 14, 15]), (.pan, [])] (.dup .n .n)))))))))))))))))) .n)))))) (.seq .n (.seq .n (.seq (.seq .n (.one (.loop [0, 99, 100, 101] [(.exit 3, [0]), (.pan, [])] (.seq .n (.seq (.dup .n .n) (.seq (.one (.seq .n (.seq .n (.join [(.norm, [0, 99, 100, 101]), (.pan, [])] (.dup .n .n))))) .n)))))) (.seq .n (.one (.seq .n (.join [(.norm, []), (.pan, [])] (.dup .n (.seq .n (.join [(.norm, []), (.pan, [])] (.dup .n .n)))))))))))) 1 (fun args h => by kernel_rfl)
/-- roundhouse/journal.records$1 -/
noncomputable def F116 (S : FS) (D : FD) (args : List AV) (h : Heap) : Option (Bool × AV × Heap) :=
 kv2 args fun yield_1 v2 =>
 ob (iterD (fun vs3 ds4 h5 => kv3 vs3 fun yield_6 v7 at_8 =>
  ob (kload h5 v7) fun v9 =>
  ob (klenS v9) fun v10 =>
  ob (kbinI .lss at_8 v10) fun v11 =>
  kif v11
   (ob (kload h5 v7) fun v12 =>
   ob (aslice Tryz.prog 9 v12 (some at_8) none none) fun v13 =>
   ob (S 117 [v13] h5) fun r14 => kres r14 (fun v15 h16 =>
   ob (aextract v15 0) fun v19 =>
   ob (aextract v15 1) fun v20 =>
   Heap.pushK h16 (.cells [(.int .i64 (.ofNat 0)), (.str 0 0)] true 118) fun h21 =>
   ob (kstore 2 (.ptr (Heap.next h16) 0) v19 h21) fun h22 =>
   ob (kbinI .eql v20 (.int .i64 (.ofNat 0))) fun v23 =>
   kif v23
    ((some ⟨1, [], ds4, h22⟩))
    (ob (kbinI .add at_8 v20) fun v24 =>
    ob (kloadN 2 h22 (.ptr (Heap.next h16) 0)) fun v25 =>
    ob (D yield_6 [v25, v24] h22) fun r26 => kres r26 (fun v27 h28 =>
    ob (aun .not v27) fun v31 =>
    kif v31
     ((some ⟨1, [], ds4, h28⟩))
     ((some ⟨0, [yield_6, v7, v24], ds4, h28⟩))) (fun p29 h30 => (some ⟨2, [p29], ds4, h30⟩)))) (fun p17 h18 => (some ⟨2, [p17], ds4, h18⟩)))
   ((some ⟨1, [], ds4, h5⟩))) rounds [yield_1, v2, (.int .i64 (.ofNat 0))] [] h) fun r32 => kcase (J.i r32) [kv0 (J.vs r32) ((dleave (fun h33 => (some (false, (.tuple []), h33))) (J.ds r32) (J.h r32))),
 kv1 (J.vs r32) fun p34 => (kds (J.ds r32) (some (true, p34, (J.h r32))))]
theorem F116_ok {S : FS} {D : FD} (hS : SpecsOK Tryz.prog S) (hD : DynOK Tryz.prog D) : SpecOK Tryz.prog 116 (F116 S D) :=
  SpecOK.of (c := match Tryz.f116.body with | some c => c | none => .skip) (by kernel_rfl) hS hD ⟨Tryz.func116, rfl, by decide⟩
    (.one (.seq .n (.seq .n (.one (.loop [0, 1, 3] [(.exit 0, []), (.pan, [])] (.seq (.seq .n (.dup .n .n)) (.one (.seq .n (.seq (.seq .n (.dup .n .n)) (.seq .n (.seq .n (.dup .n .n)))))))))))) 2 (fun args h => by kernel_rfl)
/-- roundhouse/journal.first -/
noncomputable def F117 (S : FS) (D : FD) (args : List AV) (h : Heap) : Option (Bool × AV × Heap) :=
 kv1 args fun s_1 =>
 Heap.pushK h (.cells [(.int .i64 (.ofNat 0)), (.str 0 0)] true 118) fun h2 =>
 ob (klenS s_1) fun v3 =>
 ob (kbinI .lss v3 (.int .i64 (.ofNat 2))) fun v4 =>
 ob (kgv false v4 (some s_1)) fun v5 =>
 ob (kgv false v4 (kixS v5 (.int .i64 (.ofNat 0)))) fun v6 =>
 ob (kgv false v4 (kbinI .neq v6 (.int .u8 (.ofNat 74)))) fun v7 =>
 ob (kpick v4 (.bool true) v7) fun v8 =>
 ob (kgv false v8 (some s_1)) fun v9 =>
 ob (kgv false v8 (kixS v9 (.int .i64 (.ofNat 1)))) fun v10 =>
 ob (kgv false v8 (kconvI .i64 v10)) fun v11 =>
 ob (kgc false v8 h2 (S 183 [v11] h2)) fun r12 => kres r12 (fun v13 h14 =>
 ob (kgv false v8 (aun .not v13)) fun v17 =>
 ob (kpick v8 (.bool true) v17) fun v18 =>
 kif v18
  (ob (abuild Tryz.prog 118 []) fun v19 =>
  ob (kstore 2 (.ptr (Heap.next h) 0) v19 h14) fun h20 =>
  ob (kloadN 2 h20 (.ptr (Heap.next h) 0)) fun v21 => (some (false, (.tuple [v21, (.int .i64 (.ofNat 0))]), h20)))
  (ob (aslice Tryz.prog 9 s_1 (some (.int .i64 (.ofNat 2))) none none) fun v22 =>
  ob (S 77 [v22] h14) fun r23 => kres r23 (fun v24 h25 =>
  ob (kixS s_1 (.int .i64 (.ofNat 1))) fun v28 =>
  ob (kconvI .i64 v28) fun v29 =>
  kfree h25 (Heap.pushK h25 (.cells [(.int .i64 (.ofNat 0)), (.str 0 0)] true 118) fun h30 =>
  ob (S 152 [v24] h30) fun r31 => kres r31 (fun v32 h33 =>
  kro (Heap.next h25) h30 h33 (ob (abuild Tryz.prog 118 [(0, v29), (1, v32)]) fun v36 =>
  ob (kstore 2 (.ptr (Heap.next h25) 0) v36 h33) fun h37 =>
  ob (S 80 [v24] h37) fun r38 => kres r38 (fun v39 h40 =>
  ob (aextract v39 0) fun v43 =>
  ob (aextract v39 1) fun v44 =>
  ob (kbinI .neq v43 (.int .i64 (.ofNat 0))) fun v45 =>
  ob (kgv true v45 (some v43)) fun v46 =>
  ob (kgv true v45 (kbinI .neq v46 (.int .i64 (.ofNat 4)))) fun v47 =>
  ob (kpick v45 v47 (.bool false)) fun v48 =>
  kif v48
   (ob (abuild Tryz.prog 118 []) fun v49 =>
   ob (kstore 2 (.ptr (Heap.next h) 0) v49 h40) fun h50 =>
   ob (kloadN 2 h50 (.ptr (Heap.next h) 0)) fun v51 => (some (false, (.tuple [v51, (.int .i64 (.ofNat 0))]), h50)))
   (ob (kfa 0 (.ptr (Heap.next h25) 0)) fun v52 =>
   ob (kload h40 v52) fun v53 =>
   ob (kfa 1 (.ptr (Heap.next h25) 0)) fun v54 =>
   ob (kload h40 v54) fun v55 =>
   ob (S 184 [v53, v55] h40) fun r56 => kres r56 (fun v57 h58 =>
   ob (klenS s_1) fun v61 =>
   ob (klenS v57) fun v62 =>
   ob (kbinI .lss v61 v62) fun v63 =>
   ob (kgv false v63 (some s_1)) fun v64 =>
   ob (kgv false v63 (some v57)) fun v65 =>
   ob (kgv false v63 (klenS v65)) fun v66 =>
   ob (kgv false v63 (aslice Tryz.prog 9 v64 none (some v66) none)) fun v67 =>
   ob (kgv false v63 (some v57)) fun v68 =>
   ob (kgv false v63 (kbinS .neq v67 v68)) fun v69 =>
   ob (kpick v63 (.bool true) v69) fun v70 =>
   kif v70
    (ob (abuild Tryz.prog 118 []) fun v71 =>
    ob (kstore 2 (.ptr (Heap.next h) 0) v71 h58) fun h72 =>
    ob (kloadN 2 h72 (.ptr (Heap.next h) 0)) fun v73 => (some (false, (.tuple [v73, (.int .i64 (.ofNat 0))]), h72)))
    (ob (kloadN 2 h58 (.ptr (Heap.next h25) 0)) fun v74 =>
    ob (klenS v57) fun v75 =>
    ob (kstore 2 (.ptr (Heap.next h) 0) v74 h58) fun h76 =>
    ob (kloadN 2 h76 (.ptr (Heap.next h) 0)) fun v77 => (some (false, (.tuple [v77, v75]), h76)))) (fun p59 h60 => (some (true, p59, h60))))) (fun p41 h42 => (some (true, p41, h42))))) (fun p34 h35 => none))) (fun p26 h27 => (some (true, p26, h27))))) (fun p15 h16 => (some (true, p15, h16)))
theorem F117_ok {S : FS} {D : FD} (hS : SpecsOK Tryz.prog S) (hD : DynOK Tryz.prog D) : SpecOK Tryz.prog 117 (F117 S D) :=
  SpecOK.of (c := match Tryz.f117.body with | some c => c | none => .skip) (by kernel_rfl) hS hD ⟨Tryz.func117, rfl, by decide⟩
    (.seq .n (.seq (.seq .n (.dup (.seq .n .n) .n)) (.seq .n (.seq .n (.seq (.seq .n (.seq .n (.dup (.seq .n .n) .n))) (.seq .n (.seq (.seq .n (.dup (.seq .n .n) .n)) (.seq .n .n)))))))) 1 (fun args h => by kernel_rfl)
/-- (*roundhouse/wire.Reader).Num$1 -/
noncomputable def F119 (S : FS) (D : FD) (args : List AV) (h : Heap) : Option (Bool × AV × Heap) :=
 kv2 args fun v1 v2 =>
 ob (kload h v1) fun v3 =>
 ob (S 120 [v3] h) fun r4 => kres r4 (fun v5 h6 =>
 ob (kstore 1 v2 v5 h6) fun h9 =>
 (some (false, (.tuple []), h9))) (fun p7 h8 => (some (true, p7, h8)))
theorem F119_ok {S : FS} {D : FD} (hS : SpecsOK Tryz.prog S) (hD : DynOK Tryz.prog D) : SpecOK Tryz.prog 119 (F119 S D) :=
  SpecOK.of (c := match Tryz.f119.body with | some c => c | none => .skip) (by kernel_rfl) hS hD ⟨Tryz.func119, rfl, by decide⟩
    .n 2 (fun args h => by kernel_rfl)
/-- (*roundhouse/wire.Reader).num -/
noncomputable def F120 (S : FS) (D : FD) (args : List AV) (h : Heap) : Option (Bool × AV × Heap) :=
 kv1 args fun r_1 =>
 ob (knil r_1) fun v2 =>
 ob (kfa 1 v2) fun v3 =>
 ob (kload h v3) fun v4 =>
 ob (S 186 [r_1, (.int .i64 (.ofNat 1)), v4] h) fun r5 => kres r5 (fun v6 h7 =>
 ob (kixS v6 (.int .i64 (.ofNat 0))) fun v10 =>
 ob (kconvI .i64 v10) fun v11 =>
 ob (kbinI .leq v11 (.int .i64 (.ofNat 6))) fun v12 =>
 ob (S 187 [v12, v4, (.int .i64 (.ofNat 3))] h7) fun r13 => kres r13 (fun v14 h15 =>
 ob (S 186 [r_1, v11, v4] h15) fun r18 => kres r18 (fun v19 h20 =>
 ob (klenS v19) fun v23 =>
 ob (iterD (fun vs24 ds25 h26 => kv6 vs24 fun from_27 size_28 s_29 n_30 v31 v32 =>
  ob (kbinI .lss v32 v31) fun v33 =>
  kif v33
   (ob (kbinI .shl n_30 (.int .u64 (.ofNat 8))) fun v34 =>
   ob (kixS s_29 v32) fun v35 =>
   ob (kconvI .i64 v35) fun v36 =>
   ob (kbinI .or v34 v36) fun v37 =>
   ob (kbinI .add v32 (.int .i64 (.ofNat 1))) fun v38 =>
   (some ⟨0, [from_27, size_28, s_29, v37, v31, v38], ds25, h26⟩))
   ((some ⟨1, [from_27, size_28, s_29, n_30], ds25, h26⟩))) rounds [v4, v11, v19, (.int .i64 (.ofNat 0)), v23, (.int .i64 (.ofNat 0))] [] h20) fun r39 => kcase (J.i r39) [kv4 (J.vs r39) fun from_40 size_41 s_42 n_43 =>
  ob (kbinI .eql size_41 (.int .i64 (.ofNat 0))) fun v44 =>
  ob (kgv false v44 (some s_42)) fun v45 =>
  ob (kgv false v44 (kixS v45 (.int .i64 (.ofNat 0)))) fun v46 =>
  ob (kgv false v44 (kbinI .neq v46 (.int .u8 (.ofNat 0)))) fun v47 =>
  ob (kgv false v44 (some v47)) fun v48 =>
  ob (kgv true v48 (some n_43)) fun v49 =>
  ob (kgc true v48 (J.h r39) (S 188 [v49] (J.h r39))) fun r50 => kres r50 (fun v51 h52 =>
  ob (kgv false v44 (kpick v48 v51 (.bool false))) fun v55 =>
  ob (kpick v44 (.bool true) v55) fun v56 =>
  ob (S 187 [v56, from_40, (.int .i64 (.ofNat 3))] h52) fun r57 => kres r57 (fun v58 h59 =>
  (dleave (fun h62 => (some (false, n_43, h62))) (J.ds r39) h59)) (fun p60 h61 => (kds (J.ds r39) (some (true, p60, h61))))) (fun p53 h54 => (kds (J.ds r39) (some (true, p53, h54))))]) (fun p21 h22 => (some (true, p21, h22)))) (fun p16 h17 => (some (true, p16, h17)))) (fun p8 h9 => (some (true, p8, h9)))
theorem F120_ok {S : FS} {D : FD} (hS : SpecsOK Tryz.prog S) (hD : DynOK Tryz.prog D) : SpecOK Tryz.prog 120 (F120 S D) :=
  SpecOK.of (c := match Tryz.f120.body with | some c => c | none => .skip) (by kernel_rfl) hS hD ⟨Tryz.func120, rfl, by decide⟩
    (.seq .n (.seq .n (.seq .n (.seq .n (.seq .n (.seq .n (.seq (.seq .n (.one (.loop [3, 4, 5, 6, 26, 27] [(.exit 0, [3, 4, 5, 6])] (.seq .n (.seq (.dup .n .n) (.seq (.one (.seq .n .n)) .n)))))) (.seq .n (.seq .n .n))))))))) 1 (fun args h => by kernel_rfl)
/-- (*roundhouse/wire.Reader).List$1 -/
noncomputable def F121 (S : FS) (D : FD) (args : List AV) (h : Heap) : Option (Bool × AV × Heap) :=
 kv4 args fun v1 v2 v3 v4 =>
 ob (kload h v1) fun v5 =>
 ob (kload h v2) fun v6 =>
 ob (S 122 [v5, v6] h) fun r7 => kres r7 (fun v8 h9 =>
 ob (iterD (fun vs12 ds13 h14 => kv5 vs12 fun v15 v16 v17 v18 v19 =>
  ob (kbinI .lss v19 v18) fun v20 =>
  kif v20
   (ob (kload h14 v16) fun v21 =>
   ob (kload h14 v15) fun v22 =>
   ob (S 120 [v22] h14) fun r23 => kres r23 (fun v24 h25 =>
   kre (kload h25 v16) v21 (kfree h25 (ob (abuildSlice Tryz.prog 37 1 [(0, v24)]) fun r28 => Heap.pushK h25 (.cells r28.1 true r28.2.2) fun h29 =>
   ob (aappend Tryz.prog h29 37 37 v21 (.slice (Heap.next h25) 0 1 1 r28.2.1)) fun r30 =>
   ob (kstore 1 v16 r30.1 r30.2) fun h31 =>
   ob (kbinI .add v19 (.int .i64 (.ofNat 1))) fun v32 =>
   (some ⟨0, [v15, v16, v17, v18, v32], ds13, h31⟩)))) (fun p26 h27 => none))
   ((some ⟨1, [v17], ds13, h14⟩))) rounds [v1, v3, v4, v8, (.int .i64 (.ofNat 0))] [] h9) fun r33 => kcase (J.i r33) [kv1 (J.vs r33) fun v34 =>
  ob (kstore 1 v34 (.bool true) (J.h r33)) fun h35 =>
  (dleave (fun h36 => (some (false, (.tuple []), h36))) (J.ds r33) h35),
 kv1 (J.vs r33) fun p37 => (kds (J.ds r33) (some (true, p37, (J.h r33))))]) (fun p10 h11 => (some (true, p10, h11)))
theorem F121_ok {S : FS} {D : FD} (hS : SpecsOK Tryz.prog S) (hD : DynOK Tryz.prog D) : SpecOK Tryz.prog 121 (F121 S D) :=
  SpecOK.of (c := match Tryz.f121.body with | some c => c | none => .skip) (by kernel_rfl) hS hD ⟨Tryz.func121, rfl, by decide⟩
    (.seq (.seq .n (.one (.loop [0, 2, 3, 6, 7] [(.exit 0, [3]), (.pan, [])] (.seq .n (.seq (.dup .n .n) (.seq (.one .n) .n)))))) .n) 4 (fun args h => by kernel_rfl)
/-- (*roundhouse/wire.Reader).count -/
noncomputable def F122 (S : FS) (D : FD) (args : List AV) (h : Heap) : Option (Bool × AV × Heap) :=
 kv2 args fun r_1 most_2 =>
 ob (knil r_1) fun v3 =>
 ob (kfa 1 v3) fun v4 =>
 ob (kload h v4) fun v5 =>
 ob (S 120 [r_1] h) fun r6 => kres r6 (fun v7 h8 =>
 ob (kbinI .leq v7 most_2) fun v11 =>
 ob (S 187 [v11, v5, (.int .i64 (.ofNat 3))] h8) fun r12 => kres r12 (fun v13 h14 =>
 (some (false, v7, h14))) (fun p15 h16 => (some (true, p15, h16)))) (fun p9 h10 => (some (true, p9, h10)))
theorem F122_ok {S : FS} {D : FD} (hS : SpecsOK Tryz.prog S) (hD : DynOK Tryz.prog D) : SpecOK Tryz.prog 122 (F122 S D) :=
  SpecOK.of (c := match Tryz.f122.body with | some c => c | none => .skip) (by kernel_rfl) hS hD ⟨Tryz.func122, rfl, by decide⟩
    (.seq .n (.seq .n (.seq .n (.seq .n (.seq .n .n))))) 2 (fun args h => by kernel_rfl)
/-- roundhouse/rec.in -/
noncomputable def F123 (S : FS) (D : FD) (args : List AV) (h : Heap) : Option (Bool × AV × Heap) :=
 kv3 args fun n_1 least_2 most_3 =>
 ob (kbinI .geq n_1 least_2) fun v4 =>
 ob (kgv true v4 (some n_1)) fun v5 =>
 ob (kgv true v4 (some most_3)) fun v6 =>
 ob (kgv true v4 (kbinI .leq v5 v6)) fun v7 =>
 ob (kpick v4 v7 (.bool false)) fun v8 =>
 (some (false, v8, h))
theorem F123_ok {S : FS} {D : FD} (hS : SpecsOK Tryz.prog S) (hD : DynOK Tryz.prog D) : SpecOK Tryz.prog 123 (F123 S D) :=
  SpecOK.of (c := match Tryz.f123.body with | some c => c | none => .skip) (by kernel_rfl) hS hD ⟨Tryz.func123, rfl, by decide⟩
    (.seq .n (.seq .n .n)) 3 (fun args h => by kernel_rfl)
/-- roundhouse/rec.pids -/
noncomputable def F124 (S : FS) (D : FD) (args : List AV) (h : Heap) : Option (Bool × AV × Heap) :=
 kv1 args fun l_1 =>
 ob (klenL l_1) fun v2 =>
 ob (iterD (fun vs3 ds4 h5 => kv5 vs3 fun l_6 last_7 v8 v9 v10 =>
  ob (kbinI .lss v10 v9) fun v11 =>
  kif v11
   (ob (kia 1 v8 v10) fun v12 =>
   ob (kload h5 v12) fun v13 =>
   ob (kbinI .leq v13 last_7) fun v14 =>
   ob (kgv false v14 (some v13)) fun v15 =>
   ob (kgv false v14 (kbinI .gtr v15 (.int .i64 (.ofNat 1099511627776)))) fun v16 =>
   ob (kpick v14 (.bool true) v16) fun v17 =>
   kif v17
    ((some ⟨2, [(.bool false)], ds4, h5⟩))
    (ob (kbinI .add v10 (.int .i64 (.ofNat 1))) fun v18 =>
    (some ⟨0, [l_6, v13, v8, v9, v18], ds4, h5⟩)))
   ((some ⟨1, [l_6], ds4, h5⟩))) rounds [l_1, (.int .i64 (.ofNat 0)), l_1, v2, (.int .i64 (.ofNat 0))] [] h) fun r19 => kcase (J.i r19) [kv1 (J.vs r19) fun l_20 =>
  ob (klenL l_20) fun v21 =>
  ob (S 123 [v21, (.int .i64 (.ofNat 1)), (.int .i64 (.ofNat 256))] (J.h r19)) fun r22 => kres r22 (fun v23 h24 =>
  (dleave (fun h27 => (some (false, v23, h27))) (J.ds r19) h24)) (fun p25 h26 => (kds (J.ds r19) (some (true, p25, h26)))),
 kv1 (J.vs r19) fun v28 =>
  (dleave (fun h29 => (some (false, v28, h29))) (J.ds r19) (J.h r19))]
theorem F124_ok {S : FS} {D : FD} (hS : SpecsOK Tryz.prog S) (hD : DynOK Tryz.prog D) : SpecOK Tryz.prog 124 (F124 S D) :=
  SpecOK.of (c := match Tryz.f124.body with | some c => c | none => .skip) (by kernel_rfl) hS hD ⟨Tryz.func124, rfl, by decide⟩
    (.seq .n (.seq .n (.seq (.seq .n (.one (.loop [0, 3, 6, 7, 8] [(.exit 0, [0]), (.ret, [2])] (.seq .n (.seq (.dup .n .n) (.seq (.one (.seq .n (.seq (.seq .n (.dup (.seq .n .n) .n)) .n))) .n)))))) (.seq .n .n)))) 1 (fun args h => by kernel_rfl)
/-- slices.Collect[int] -/
noncomputable def F125 (S : FS) (D : FD) (args : List AV) (h : Heap) : Option (Bool × AV × Heap) :=
 kv1 args fun seq_1 =>
 ob (S 189 [AV.nilslice, seq_1] h) fun r2 => kres r2 (fun v3 h4 =>
 (some (false, v3, h4))) (fun p5 h6 => (some (true, p5, h6)))
theorem F125_ok {S : FS} {D : FD} (hS : SpecsOK Tryz.prog S) (hD : DynOK Tryz.prog D) : SpecOK Tryz.prog 125 (F125 S D) :=
  SpecOK.of (c := match Tryz.f125.body with | some c => c | none => .skip) (by kernel_rfl) hS hD ⟨Tryz.func125, rfl, by decide⟩
    (.seq .n (.seq .n .n)) 1 (fun args h => by kernel_rfl)
/-- slices.Sort[[]int,int] -/
noncomputable def F126 (S : FS) (D : FD) (args : List AV) (h : Heap) : Option (Bool × AV × Heap) :=
 kv1 args fun x_1 =>
 ob (klenL x_1) fun v2 =>
 ob (kconvI .u64 v2) fun v3 =>
 ob (S 191 [v3] h) fun r4 => kres r4 (fun v5 h6 =>
 ob (S 190 [x_1, (.int .i64 (.ofNat 0)), v2, v5] h6) fun r9 => kres r9 (fun v10 h11 =>
 (some (false, (.tuple []), h11))) (fun p12 h13 => (some (true, p12, h13)))) (fun p7 h8 => (some (true, p7, h8)))
theorem F126_ok {S : FS} {D : FD} (hS : SpecsOK Tryz.prog S) (hD : DynOK Tryz.prog D) : SpecOK Tryz.prog 126 (F126 S D) :=
  SpecOK.of (c := match Tryz.f126.body with | some c => c | none => .skip) (by kernel_rfl) hS hD ⟨Tryz.func126, rfl, by decide⟩
    (.seq .n .n) 1 (fun args h => by kernel_rfl)
/-- maps.Keys[map[int]*roundhouse/procs.process,int,*roundhouse/procs.process]$1 -/
noncomputable def F127 (S : FS) (D : FD) (args : List AV) (h : Heap) : Option (Bool × AV × Heap) :=
 kv2 args fun yield_1 v2 =>
 ob (kload h v2) fun v3 =>
 ob (arangeM Tryz.prog h 172 v3) fun r4 =>
 ob (iterD (fun vs5 ds6 h7 => kv2 vs5 fun yield_8 v9 =>
  ob (anext h7 v9 false) fun r10 =>
  ob (aextract r10.1 0) fun v11 =>
  kif v11
   (ob (aentry r10.2 v9) fun v12 =>
   ob (aextract v12 0) fun v13 =>
   ob (D yield_8 [v13] r10.2) fun r14 => kres r14 (fun v15 h16 =>
   ob (aun .not v15) fun v19 =>
   kif v19
    ((some ⟨2, [], ds6, h16⟩))
    ((some ⟨0, [yield_8, v9], ds6, h16⟩))) (fun p17 h18 => (some ⟨3, [p17], ds6, h18⟩)))
   ((some ⟨1, [], ds6, r10.2⟩))) rounds [yield_1, r4.1] [] r4.2) fun r20 => kcase (J.i r20) [kv0 (J.vs r20) ((dleave (fun h21 => (some (false, (.tuple []), h21))) (J.ds r20) (J.h r20))),
 kv0 (J.vs r20) ((dleave (fun h22 => (some (false, (.tuple []), h22))) (J.ds r20) (J.h r20))),
 kv1 (J.vs r20) fun p23 => (kds (J.ds r20) (some (true, p23, (J.h r20))))]
theorem F127_ok {S : FS} {D : FD} (hS : SpecsOK Tryz.prog S) (hD : DynOK Tryz.prog D) : SpecOK Tryz.prog 127 (F127 S D) :=
  SpecOK.of (c := match Tryz.f127.body with | some c => c | none => .skip) (by kernel_rfl) hS hD ⟨Tryz.func127, rfl, by decide⟩
    (.seq .n (.one (.loop [0, 5] [(.exit 0, []), (.ret, []), (.pan, [])] (.seq .n (.seq (.dup .n .n) (.one (.seq .n (.seq .n (.dup .n .n))))))))) 2 (fun args h => by kernel_rfl)
/-- roundhouse/cores.in -/
noncomputable def F128 (S : FS) (D : FD) (args : List AV) (h : Heap) : Option (Bool × AV × Heap) :=
 kv3 args fun n_1 least_2 most_3 =>
 ob (kbinI .geq n_1 least_2) fun v4 =>
 ob (kgv true v4 (some n_1)) fun v5 =>
 ob (kgv true v4 (some most_3)) fun v6 =>
 ob (kgv true v4 (kbinI .leq v5 v6)) fun v7 =>
 ob (kpick v4 v7 (.bool false)) fun v8 =>
 (some (false, v8, h))
theorem F128_ok {S : FS} {D : FD} (hS : SpecsOK Tryz.prog S) (hD : DynOK Tryz.prog D) : SpecOK Tryz.prog 128 (F128 S D) :=
  SpecOK.of (c := match Tryz.f128.body with | some c => c | none => .skip) (by kernel_rfl) hS hD ⟨Tryz.func128, rfl, by decide⟩
    (.seq .n (.seq .n .n)) 3 (fun args h => by kernel_rfl)
/-- slices.IndexFunc[[]int,int] -/
noncomputable def F129 (S : FS) (D : FD) (args : List AV) (h : Heap) : Option (Bool × AV × Heap) :=
 kv2 args fun s_1 f_2 =>
 ob (klenL s_1) fun v3 =>
 ob (iterD (fun vs4 ds5 h6 => kv4 vs4 fun s_7 f_8 v9 v10 =>
  ob (kbinI .lss v10 v9) fun v11 =>
  kif v11
   (ob (kia 1 s_7 v10) fun v12 =>
   ob (kload h6 v12) fun v13 =>
   ob (D f_8 [v13] h6) fun r14 => kres r14 (fun v15 h16 =>
   kif v15
    ((some ⟨2, [v10], ds5, h16⟩))
    (ob (kbinI .add v10 (.int .i64 (.ofNat 1))) fun v19 =>
    (some ⟨0, [s_7, f_8, v9, v19], ds5, h16⟩))) (fun p17 h18 => (some ⟨3, [p17], ds5, h18⟩)))
   ((some ⟨1, [], ds5, h6⟩))) rounds [s_1, f_2, v3, (.int .i64 (.ofNat 0))] [] h) fun r20 => kcase (J.i r20) [kv0 (J.vs r20) ((dleave (fun h21 => (some (false, (.int .i64 (.negSucc 0)), h21))) (J.ds r20) (J.h r20))),
 kv1 (J.vs r20) fun v22 =>
  (dleave (fun h23 => (some (false, v22, h23))) (J.ds r20) (J.h r20)),
 kv1 (J.vs r20) fun p24 => (kds (J.ds r20) (some (true, p24, (J.h r20))))]
theorem F129_ok {S : FS} {D : FD} (hS : SpecsOK Tryz.prog S) (hD : DynOK Tryz.prog D) : SpecOK Tryz.prog 129 (F129 S D) :=
  SpecOK.of (c := match Tryz.f129.body with | some c => c | none => .skip) (by kernel_rfl) hS hD ⟨Tryz.func129, rfl, by decide⟩
    (.seq .n (.seq (.seq .n (.one (.loop [0, 1, 7, 8] [(.exit 0, []), (.ret, [4]), (.pan, [])] (.seq .n (.seq (.dup .n .n) (.seq (.one (.seq .n (.seq .n (.dup (.seq .n .n) .n)))) .n)))))) (.seq .n .n))) 2 (fun args h => by kernel_rfl)
/-- roundhouse/dag.in -/
noncomputable def F130 (S : FS) (D : FD) (args : List AV) (h : Heap) : Option (Bool × AV × Heap) :=
 kv3 args fun n_1 least_2 most_3 =>
 ob (kbinI .geq n_1 least_2) fun v4 =>
 ob (kgv true v4 (some n_1)) fun v5 =>
 ob (kgv true v4 (some most_3)) fun v6 =>
 ob (kgv true v4 (kbinI .leq v5 v6)) fun v7 =>
 ob (kpick v4 v7 (.bool false)) fun v8 =>
 (some (false, v8, h))
theorem F130_ok {S : FS} {D : FD} (hS : SpecsOK Tryz.prog S) (hD : DynOK Tryz.prog D) : SpecOK Tryz.prog 130 (F130 S D) :=
  SpecOK.of (c := match Tryz.f130.body with | some c => c | none => .skip) (by kernel_rfl) hS hD ⟨Tryz.func130, rfl, by decide⟩
    (.seq .n (.seq .n .n)) 3 (fun args h => by kernel_rfl)
/-- roundhouse/dag.step -/
noncomputable def F131 (S : FS) (D : FD) (args : List AV) (h : Heap) : Option (Bool × AV × Heap) :=
 kv3 args fun s_1 at_2 n_3 =>
 knt s_1 (Heap.pushK h (.cells (AV.cells s_1) true 50) fun h4 =>
 ob (kfa 0 (.ptr (Heap.next h) 0)) fun v5 =>
 ob (kload h4 v5) fun v6 =>
 ob (S 130 [v6, (.int .i64 (.ofNat 1)), (.int .i64 (.ofNat 32))] h4) fun r7 => kres r7 (fun v8 h9 =>
 ob (aun .not v8) fun v12 =>
 ob (kgv false v12 (kfa 1 (.ptr (Heap.next h) 0))) fun v13 =>
 ob (kgv false v12 (kload h9 v13)) fun v14 =>
 ob (kgc false v12 h9 (S 130 [v14, (.int .i64 (.ofNat 1)), (.int .i64 (.ofNat 256))] h9)) fun r15 => kres r15 (fun v16 h17 =>
 ob (kgv false v12 (aun .not v16)) fun v20 =>
 ob (kpick v12 (.bool true) v20) fun v21 =>
 ob (kgv false v21 (kfa 2 (.ptr (Heap.next h) 0))) fun v22 =>
 ob (kgv false v21 (kload h17 v22)) fun v23 =>
 ob (kgc false v21 h17 (S 130 [v23, (.int .i64 (.ofNat 0)), (.int .i64 (.ofNat 1))] h17)) fun r24 => kres r24 (fun v25 h26 =>
 ob (kgv false v21 (aun .not v25)) fun v29 =>
 ob (kpick v21 (.bool true) v29) fun v30 =>
 ob (kgv false v30 (kfa 3 (.ptr (Heap.next h) 0))) fun v31 =>
 ob (kgv false v30 (kload h26 v31)) fun v32 =>
 ob (kgc false v30 h26 (S 130 [v32, (.int .i64 (.ofNat 1)), (.int .i64 (.ofNat 1073741824))] h26)) fun r33 => kres r33 (fun v34 h35 =>
 ob (kgv false v30 (aun .not v34)) fun v38 =>
 ob (kpick v30 (.bool true) v38) fun v39 =>
 kif v39
  ((some (false, (.bool false), h35)))
  (ob (abuildSlice Tryz.prog 37 1 [(0, at_2)]) fun r40 => Heap.pushK h35 (.cells r40.1 true r40.2.2) fun h41 =>
  ob (kfa 4 (.ptr (Heap.next h) 0)) fun v42 =>
  ob (kload h41 v42) fun v43 =>
  ob (klenL v43) fun v44 =>
  ob (iterD (fun vs45 ds46 h47 => kv5 vs45 fun n_48 named_49 v50 v51 v52 =>
   ob (kbinI .lss v52 v51) fun v53 =>
   kif v53
    (ob (kia 2 v50 v52) fun v54 =>
    ob (kloadN 2 h47 v54) fun v55 =>
    Heap.pushK h47 (.cells [(.int .i64 (.ofNat 0)), (.int .i64 (.ofNat 0))] true 148) fun h56 =>
    ob (kstore 2 (.ptr (Heap.next h47) 0) v55 h56) fun h57 =>
    ob (kfa 0 (.ptr (Heap.next h47) 0)) fun v58 =>
    ob (kload h57 v58) fun v59 =>
    ob (kbinI .sub n_48 (.int .i64 (.ofNat 1))) fun v60 =>
    ob (S 130 [v59, (.int .i64 (.ofNat 0)), v60] h57) fun r61 => kres r61 (fun v62 h63 =>
    ob (aun .not v62) fun v66 =>
    ob (kgv false v66 (kfa 1 (.ptr (Heap.next h47) 0))) fun v67 =>
    ob (kgv false v66 (kload h63 v67)) fun v68 =>
    ob (kgc false v66 h63 (S 130 [v68, (.int .i64 (.ofNat 0)), (.int .i64 (.ofNat 2))] h63)) fun r69 => kres r69 (fun v70 h71 =>
    ob (kgv false v66 (aun .not v70)) fun v74 =>
    ob (kpick v66 (.bool true) v74) fun v75 =>
    ob (kgv false v75 (some named_49)) fun v76 =>
    ob (kgv false v75 (kfa 0 (.ptr (Heap.next h47) 0))) fun v77 =>
    ob (kgv false v75 (kload h71 v77)) fun v78 =>
    ob (kgc false v75 h71 (S 153 [v76, v78] h71)) fun r79 => kres r79 (fun v80 h81 =>
    ob (kpick v75 (.bool true) v80) fun v84 =>
    kif v84
     ((some ⟨2, [(.bool false)], ds46, h81⟩))
     (ob (kfa 0 (.ptr (Heap.next h47) 0)) fun v85 =>
     ob (kload h81 v85) fun v86 =>
     ob (abuildSlice Tryz.prog 37 1 [(0, v86)]) fun r87 => Heap.pushK h81 (.cells r87.1 true r87.2.2) fun h88 =>
     ob (aappend Tryz.prog h88 37 37 named_49 (.slice (Heap.next h81) 0 1 1 r87.2.1)) fun r89 =>
     ob (kbinI .add v52 (.int .i64 (.ofNat 1))) fun v90 =>
     (some ⟨0, [n_48, r89.1, v50, v51, v90], ds46, r89.2⟩))) (fun p82 h83 => (some ⟨3, [p82], ds46, h83⟩))) (fun p72 h73 => (some ⟨3, [p72], ds46, h73⟩))) (fun p64 h65 => (some ⟨3, [p64], ds46, h65⟩)))
    ((some ⟨1, [], ds46, h47⟩))) rounds [n_3, (.slice (Heap.next h35) 0 1 1 r40.2.1), v43, v44, (.int .i64 (.ofNat 0))] [] h41) fun r91 => kcase (J.i r91) [kv0 (J.vs r91) ((dleave (fun h92 => (some (false, (.bool true), h92))) (J.ds r91) (J.h r91))),
  kv1 (J.vs r91) fun v93 =>
   (dleave (fun h94 => (some (false, v93, h94))) (J.ds r91) (J.h r91)),
  kv1 (J.vs r91) fun p95 => (kds (J.ds r91) (some (true, p95, (J.h r91))))])) (fun p36 h37 => (some (true, p36, h37)))) (fun p27 h28 => (some (true, p27, h28)))) (fun p18 h19 => (some (true, p18, h19)))) (fun p10 h11 => (some (true, p10, h11))))
theorem F131_ok {S : FS} {D : FD} (hS : SpecsOK Tryz.prog S) (hD : DynOK Tryz.prog D) : SpecOK Tryz.prog 131 (F131 S D) :=
  SpecOK.of (c := match Tryz.f131.body with | some c => c | none => .skip) (by kernel_rfl) hS hD ⟨Tryz.func131, rfl, by decide⟩
    (.seq .n (.seq (.seq .n (.dup (.seq .n .n) .n)) (.seq .n (.seq (.seq .n (.one (.loop [2, 7, 35, 36, 37] [(.exit 0, []), (.ret, [6]), (.pan, [])] (.seq .n (.seq (.dup .n .n) (.seq (.one (.seq .n (.seq (.seq .n (.dup (.seq .n .n) .n)) .n))) .n)))))) (.seq .n .n))))) 3 (fun args h => by kernel_rfl)
/-- roundhouse/dag.order -/
noncomputable def F132 (S : FS) (D : FD) (args : List AV) (h : Heap) : Option (Bool × AV × Heap) :=
 kv1 args fun l_1 =>
 ob (iterD (fun vs2 ds3 h4 => kv2 vs2 fun l_5 out_6 =>
  ob (klenL l_5) fun v7 =>
  ob (iterD (fun vs8 ds9 h10 => kv5 vs8 fun l_11 out_12 v13 v14 v15 =>
   ob (kbinI .lss v15 v14) fun v16 =>
   kif v16
    (ob (ob (kia 5 v13 v15) fun v18 =>
     ob (kloadN 5 h10 v18) fun v19 =>
     Heap.pushK h10 (.cells [(.int .i64 (.ofNat 0)), (.int .i64 (.ofNat 0)), (.int .i64 (.ofNat 0)), (.int .i64 (.ofNat 0)), AV.nilslice] true 50) fun h20 =>
     ob (kstore 5 (.ptr (Heap.next h10) 0) v19 h20) fun h21 =>
     ob (S 153 [out_12, v15] h21) fun r22 => kres r22 (fun v23 h24 =>
     kif v23
      ((some ⟨0, [l_11, out_12, v13, v14, v15], ds9, h24⟩))
      (ob (kfa 4 (.ptr (Heap.next h10) 0)) fun v27 =>
      ob (kload h24 v27) fun v28 =>
      ob (klenL v28) fun v29 =>
      ob (iterD (fun vs30 ds31 h32 => kv9 vs30 fun l_33 out_34 i_35 v36 v37 v38 v39 v40 v41 =>
       ob (kbinI .lss v41 v40) fun v42 =>
       kif v42
        (ob (kia 2 v39 v41) fun v43 =>
        ob (kloadN 2 h32 v43) fun v44 =>
        Heap.pushK h32 (.cells [(.int .i64 (.ofNat 0)), (.int .i64 (.ofNat 0))] true 148) fun h45 =>
        ob (kstore 2 (.ptr (Heap.next h32) 0) v44 h45) fun h46 =>
        ob (kfa 0 (.ptr (Heap.next h32) 0)) fun v47 =>
        ob (kload h46 v47) fun v48 =>
        ob (S 153 [out_34, v48] h46) fun r49 => kres r49 (fun v50 h51 =>
        ob (aun .not v50) fun v54 =>
        kif v54
         ((some ⟨1, [l_33, out_34, v36, v37, v38], ds31, h51⟩))
         (ob (kbinI .add v41 (.int .i64 (.ofNat 1))) fun v55 =>
         (some ⟨0, [l_33, out_34, i_35, v36, v37, v38, v39, v40, v55], ds31, h51⟩))) (fun p52 h53 => (some ⟨3, [p52], ds31, h53⟩)))
        ((some ⟨2, [l_33, out_34, i_35], ds31, h32⟩))) rounds [l_11, out_12, v15, v13, v14, v15, v28, v29, (.int .i64 (.ofNat 0))] ds9 h24) fun r56 => kcase (J.i r56) [kv5 (J.vs r56) fun l_57 out_58 v59 v60 v61 =>
       (some ⟨0, [l_57, out_58, v59, v60, v61], (J.ds r56), (J.h r56)⟩),
      kv3 (J.vs r56) fun l_62 out_63 i_64 =>
       ob (abuildSlice Tryz.prog 37 1 [(0, i_64)]) fun r65 => Heap.pushK (J.h r56) (.cells r65.1 true r65.2.2) fun h66 =>
       ob (aappend Tryz.prog h66 37 37 out_63 (.slice (Heap.next (J.h r56)) 0 1 1 r65.2.1)) fun r67 =>
       (some ⟨1, [l_62, r67.1], (J.ds r56), r67.2⟩),
      kv1 (J.vs r56) fun p68 => (some ⟨2, [p68], (J.ds r56), (J.h r56)⟩)])) (fun p25 h26 => (some ⟨2, [p25], ds9, h26⟩))) fun r17 => kcase (J.i r17) [kv5 (J.vs r17) fun l_69 out_70 v71 v72 v73 =>
     ob (kbinI .add v73 (.int .i64 (.ofNat 1))) fun v74 =>
     (some ⟨0, [l_69, out_70, v71, v72, v74], (J.ds r17), (J.h r17)⟩),
    kv2 (J.vs r17) fun l_75 out_76 =>
     (some ⟨1, [l_75, out_76], (J.ds r17), (J.h r17)⟩),
    kv1 (J.vs r17) fun p77 => (some ⟨3, [p77], (J.ds r17), (J.h r17)⟩)])
    ((some ⟨2, [out_12], ds9, h10⟩))) rounds [l_5, out_6, l_5, v7, (.int .i64 (.ofNat 0))] ds3 h4) fun r78 => kcase (J.i r78) [kv2 (J.vs r78) fun l_79 out_80 =>
   (some ⟨0, [l_79, out_80], (J.ds r78), (J.h r78)⟩),
  kv1 (J.vs r78) fun out_81 =>
   (some ⟨1, [out_81], (J.ds r78), (J.h r78)⟩),
  kv1 (J.vs r78) fun p82 => (some ⟨2, [p82], (J.ds r78), (J.h r78)⟩)]) rounds [l_1, AV.nilslice] [] h) fun r83 => kcase (J.i r83) [kv1 (J.vs r83) fun out_84 =>
  (dleave (fun h85 => (some (false, out_84, h85))) (J.ds r83) (J.h r83)),
 kv1 (J.vs r83) fun p86 => (kds (J.ds r83) (some (true, p86, (J.h r83))))]
theorem F132_ok {S : FS} {D : FD} (hS : SpecsOK Tryz.prog S) (hD : DynOK Tryz.prog D) : SpecOK Tryz.prog 132 (F132 S D) :=
  SpecOK.of (c := match Tryz.f132.body with | some c => c | none => .skip) (by kernel_rfl) hS hD ⟨Tryz.func132, rfl, by decide⟩
    (.seq .n (.one (.seq .n (.seq .n (.seq (.one (.loop [0, 3] [(.exit 0, [3]), (.pan, [])] (.one (.one (.seq .n (.seq (.seq .n (.one (.loop [0, 3, 8, 9, 10] [(.exit 1, [0, 3]), (.exit 2, [3]), (.pan, [])] (.seq .n (.seq (.dup .n .n) (.seq (.join [(.norm, [0, 3, 8, 9, 10]), (.exit 1, [0, 3]), (.pan, [])] (.one (.seq .n (.seq (.seq .n (.dup .n .n)) (.seq (.seq .n (.one (.loop [0, 3, 4, 8, 9, 10, 19, 20, 21] [(.exit 3, [0, 3, 8, 9, 10]), (.exit 4, [0, 3, 4]), (.pan, [])] (.seq .n (.seq (.dup .n .n) (.seq (.one (.seq .n (.seq .n (.dup .n .n)))) .n)))))) (.seq .n .n)))))) .n)))))) .n)))))) (.seq .n .n)))))) 1 (fun args h => by kernel_rfl)
/-- roundhouse/tally.New -/
noncomputable def F133 (S : FS) (D : FD) (args : List AV) (h : Heap) : Option (Bool × AV × Heap) :=
 kv1 args fun nodes_1 =>
 ob (klenL nodes_1) fun v2 =>
 ob (iterD (fun vs3 ds4 h5 => kv5 vs3 fun nodes_6 last_7 v8 v9 v10 =>
  ob (kbinI .lss v10 v9) fun v11 =>
  kif v11
   (ob (kia 1 v8 v10) fun v12 =>
   ob (kload h5 v12) fun v13 =>
   ob (kbinI .leq v13 last_7) fun v14 =>
   ob (kgv false v14 (some v13)) fun v15 =>
   ob (kgv false v14 (kbinI .geq v15 (.int .i64 (.ofNat 16)))) fun v16 =>
   ob (kpick v14 (.bool true) v16) fun v17 =>
   kif v17
    ((some ⟨2, [AV.nilptr], ds4, h5⟩))
    (ob (kbinI .add v10 (.int .i64 (.ofNat 1))) fun v18 =>
    (some ⟨0, [nodes_6, v13, v8, v9, v18], ds4, h5⟩)))
   ((some ⟨1, [nodes_6], ds4, h5⟩))) rounds [nodes_1, (.int .i64 (.negSucc 0)), nodes_1, v2, (.int .i64 (.ofNat 0))] [] h) fun r19 => kcase (J.i r19) [kv1 (J.vs r19) fun nodes_20 =>
  ob (klenL nodes_20) fun v21 =>
  ob (kbinI .eql v21 (.int .i64 (.ofNat 0))) fun v22 =>
  kif v22
   ((dleave (fun h23 => (some (false, AV.nilptr, h23))) (J.ds r19) (J.h r19)))
   (ob (S 33 [nodes_20] (J.h r19)) fun r24 => kres r24 (fun v25 h26 =>
   ob (S 192 [v25] h26) fun r29 => kres r29 (fun v30 h31 =>
   ob (S 193 [v25] h31) fun r34 => kres r34 (fun v35 h36 =>
   ob (abuild Tryz.prog 140 [(0, v25), (1, v30), (2, v35)]) fun v39 =>
   knt v39 (Heap.pushK h36 (.cells (AV.cells v39) true 140) fun h40 =>
   (dleave (fun h41 => (some (false, (.ptr (Heap.next h36) 0), h41))) (J.ds r19) h40))) (fun p37 h38 => (kds (J.ds r19) (some (true, p37, h38))))) (fun p32 h33 => (kds (J.ds r19) (some (true, p32, h33))))) (fun p27 h28 => (kds (J.ds r19) (some (true, p27, h28))))),
 kv1 (J.vs r19) fun v42 =>
  (dleave (fun h43 => (some (false, v42, h43))) (J.ds r19) (J.h r19))]
theorem F133_ok {S : FS} {D : FD} (hS : SpecsOK Tryz.prog S) (hD : DynOK Tryz.prog D) : SpecOK Tryz.prog 133 (F133 S D) :=
  SpecOK.of (c := match Tryz.f133.body with | some c => c | none => .skip) (by kernel_rfl) hS hD ⟨Tryz.func133, rfl, by decide⟩
    (.seq .n (.seq .n (.seq (.seq .n (.one (.loop [0, 3, 6, 7, 8] [(.exit 0, [0]), (.ret, [2])] (.seq .n (.seq (.dup .n .n) (.seq (.one (.seq .n (.seq (.seq .n (.dup (.seq .n .n) .n)) .n))) .n)))))) (.seq (.seq .n (.dup (.seq .n .n) .n)) (.seq .n (.seq .n .n)))))) 1 (fun args h => by kernel_rfl)
/-- slices.IndexFunc[[]roundhouse/api.Step,roundhouse/api.Step] -/
noncomputable def F134 (S : FS) (D : FD) (args : List AV) (h : Heap) : Option (Bool × AV × Heap) :=
 kv2 args fun s_1 f_2 =>
 ob (klenL s_1) fun v3 =>
 ob (iterD (fun vs4 ds5 h6 => kv4 vs4 fun s_7 f_8 v9 v10 =>
  ob (kbinI .lss v10 v9) fun v11 =>
  kif v11
   (ob (kia 5 s_7 v10) fun v12 =>
   ob (kloadN 5 h6 v12) fun v13 =>
   ob (D f_8 [v13] h6) fun r14 => kres r14 (fun v15 h16 =>
   kif v15
    ((some ⟨2, [v10], ds5, h16⟩))
    (ob (kbinI .add v10 (.int .i64 (.ofNat 1))) fun v19 =>
    (some ⟨0, [s_7, f_8, v9, v19], ds5, h16⟩))) (fun p17 h18 => (some ⟨3, [p17], ds5, h18⟩)))
   ((some ⟨1, [], ds5, h6⟩))) rounds [s_1, f_2, v3, (.int .i64 (.ofNat 0))] [] h) fun r20 => kcase (J.i r20) [kv0 (J.vs r20) ((dleave (fun h21 => (some (false, (.int .i64 (.negSucc 0)), h21))) (J.ds r20) (J.h r20))),
 kv1 (J.vs r20) fun v22 =>
  (dleave (fun h23 => (some (false, v22, h23))) (J.ds r20) (J.h r20)),
 kv1 (J.vs r20) fun p24 => (kds (J.ds r20) (some (true, p24, (J.h r20))))]
theorem F134_ok {S : FS} {D : FD} (hS : SpecsOK Tryz.prog S) (hD : DynOK Tryz.prog D) : SpecOK Tryz.prog 134 (F134 S D) :=
  SpecOK.of (c := match Tryz.f134.body with | some c => c | none => .skip) (by kernel_rfl) hS hD ⟨Tryz.func134, rfl, by decide⟩
    (.seq .n (.seq (.seq .n (.one (.loop [0, 1, 7, 8] [(.exit 0, []), (.ret, [4]), (.pan, [])] (.seq .n (.seq (.dup .n .n) (.seq (.one (.seq .n (.seq .n (.dup (.seq .n .n) .n)))) .n)))))) (.seq .n .n))) 2 (fun args h => by kernel_rfl)
/-- slices.Repeat[[]int,int] -/
noncomputable def F135 (S : FS) (D : FD) (args : List AV) (h : Heap) : Option (Bool × AV × Heap) :=
 kv2 args fun x_1 count_2 =>
 ob (kbinI .lss count_2 (.int .i64 (.ofNat 0))) fun v3 =>
 kif v3
  (kpan (.iface 9 (.str 18 8838634371626034279618351153450530198413667)) fun p4 => (some (true, p4, h)))
  (ob (klenL x_1) fun v5 =>
  ob (kconvI .u64 v5) fun v6 =>
  ob (kconvI .u64 count_2) fun v7 =>
  ob (S 194 [v6, v7] h) fun r8 => kres r8 (fun v9 h10 =>
  ob (aextract v9 0) fun v13 =>
  ob (aextract v9 1) fun v14 =>
  ob (kbinI .gtr v13 (.int .u64 (.ofNat 0))) fun v15 =>
  ob (kgv false v15 (some v14)) fun v16 =>
  ob (kgv false v15 (kbinI .gtr v16 (.int .u64 (.ofNat 9223372036854775807)))) fun v17 =>
  ob (kpick v15 (.bool true) v17) fun v18 =>
  kif v18
   (kpan (.iface 9 (.str 40 963418128638552869720407654453272125421877327008697887680703274632671259614598848762731909441652)) fun p19 => (some (true, p19, h10)))
   (ob (kconvI .i64 v14) fun v20 =>
   ob (amakeSlice Tryz.prog 37 v20 v20) fun r21 => Heap.pushK h10 (.cells r21.1 true r21.2.2.2.2) fun h22 =>
   ob (acopy Tryz.prog h22 37 (.slice (Heap.next h10) 0 r21.2.1 r21.2.2.1 r21.2.2.2.1) x_1) fun r23 =>
   ob (iterD (fun vs24 ds25 h26 => kv2 vs24 fun newslice_27 n_28 =>
    ob (klenL newslice_27) fun v29 =>
    ob (kbinI .lss n_28 v29) fun v30 =>
    kif v30
     (ob (aslice Tryz.prog 37 newslice_27 (some n_28) none none) fun v31 =>
     ob (aslice Tryz.prog 37 newslice_27 none (some n_28) none) fun v32 =>
     ob (acopy Tryz.prog h26 37 v31 v32) fun r33 =>
     ob (kbinI .add n_28 r33.1) fun v34 =>
     (some ⟨0, [newslice_27, v34], ds25, r33.2⟩))
     ((some ⟨1, [newslice_27], ds25, h26⟩))) rounds [(.slice (Heap.next h10) 0 r21.2.1 r21.2.2.1 r21.2.2.2.1), r23.1] [] r23.2) fun r35 => kcase (J.i r35) [kv1 (J.vs r35) fun newslice_36 =>
    (dleave (fun h37 => (some (false, newslice_36, h37))) (J.ds r35) (J.h r35))])) (fun p11 h12 => (some (true, p11, h12))))
theorem F135_ok {S : FS} {D : FD} (hS : SpecsOK Tryz.prog S) (hD : DynOK Tryz.prog D) : SpecOK Tryz.prog 135 (F135 S D) :=
  SpecOK.of (c := match Tryz.f135.body with | some c => c | none => .skip) (by kernel_rfl) hS hD ⟨Tryz.func135, rfl, by decide⟩
    (.seq .n (.seq (.seq .n (.dup .n .n)) (.seq .n (.seq (.seq .n (.dup .n .n)) (.seq .n (.seq .n (.seq (.one (.loop [7, 8] [(.exit 0, [7])] (.seq (.seq .n (.dup .n .n)) (.one .n)))) (.seq .n .n)))))))) 2 (fun args h => by kernel_rfl)
/-- (*roundhouse/agent.Agent).living$1 -/
noncomputable def F136 (S : FS) (D : FD) (args : List AV) (h : Heap) : Option (Bool × AV × Heap) :=
 kv2 args fun yield_1 v2 =>
 ob (kload h v2) fun v3 =>
 ob (knil v3) fun v4 =>
 ob (kfa 12 v4) fun v5 =>
 ob (kfa 1 v5) fun v6 =>
 ob (kload h v6) fun v7 =>
 ob (S 137 [v7] h) fun r8 => kres r8 (fun v9 h10 =>
 ob (klenL v9) fun v13 =>
 ob (iterD (fun vs14 ds15 h16 => kv4 vs14 fun yield_17 v18 v19 v20 =>
  ob (kbinI .lss v20 v19) fun v21 =>
  kif v21
   (ob (kia 6 v18 v20) fun v22 =>
   ob (kloadN 6 h16 v22) fun v23 =>
   Heap.pushK h16 (.cells [(.int .i64 (.ofNat 0)), (.int .i64 (.ofNat 0)), (.int .i64 (.ofNat 0)), (.int .i64 (.ofNat 0)), (.int .i64 (.ofNat 0)), AV.nilslice] true 192) fun h24 =>
   ob (kstore 6 (.ptr (Heap.next h16) 0) v23 h24) fun h25 =>
   ob (kfa 3 (.ptr (Heap.next h16) 0)) fun v26 =>
   ob (kload h25 v26) fun v27 =>
   ob (kbinI .eql v27 (.int .i64 (.ofNat 0))) fun v28 =>
   ob (kgv false v28 (kfa 3 (.ptr (Heap.next h16) 0))) fun v29 =>
   ob (kgv false v28 (kload h25 v29)) fun v30 =>
   ob (kgv false v28 (kbinI .eql v30 (.int .i64 (.ofNat 1)))) fun v31 =>
   ob (kpick v28 (.bool true) v31) fun v32 =>
   ob (kgv true v32 (some yield_17)) fun v33 =>
   ob (kgv true v32 (kloadN 6 h25 (.ptr (Heap.next h16) 0))) fun v34 =>
   ob (kgc true v32 h25 (D v33 [v34] h25)) fun r35 => kres r35 (fun v36 h37 =>
   ob (kgv true v32 (aun .not v36)) fun v40 =>
   ob (kpick v32 v40 (.bool false)) fun v41 =>
   kif v41
    ((some ⟨2, [], ds15, h37⟩))
    (ob (kbinI .add v20 (.int .i64 (.ofNat 1))) fun v42 =>
    (some ⟨0, [yield_17, v18, v19, v42], ds15, h37⟩))) (fun p38 h39 => (some ⟨3, [p38], ds15, h39⟩)))
   ((some ⟨1, [], ds15, h16⟩))) rounds [yield_1, v9, v13, (.int .i64 (.ofNat 0))] [] h10) fun r43 => kcase (J.i r43) [kv0 (J.vs r43) ((dleave (fun h44 => (some (false, (.tuple []), h44))) (J.ds r43) (J.h r43))),
 kv0 (J.vs r43) ((dleave (fun h45 => (some (false, (.tuple []), h45))) (J.ds r43) (J.h r43))),
 kv1 (J.vs r43) fun p46 => (kds (J.ds r43) (some (true, p46, (J.h r43))))]) (fun p11 h12 => (some (true, p11, h12)))
theorem F136_ok {S : FS} {D : FD} (hS : SpecsOK Tryz.prog S) (hD : DynOK Tryz.prog D) : SpecOK Tryz.prog 136 (F136 S D) :=
  SpecOK.of (c := match Tryz.f136.body with | some c => c | none => .skip) (by kernel_rfl) hS hD ⟨Tryz.func136, rfl, by decide⟩
    (.seq .n (.one (.loop [0, 10, 11, 12] [(.exit 0, []), (.ret, []), (.pan, [])] (.seq .n (.seq (.dup .n .n) (.seq (.one (.seq .n (.seq .n (.dup .n .n)))) .n)))))) 2 (fun args h => by kernel_rfl)
/-- slices.Clone[[]roundhouse/rec.Step,roundhouse/rec.Step] -/
noncomputable def F137 (S : FS) (D : FD) (args : List AV) (h : Heap) : Option (Bool × AV × Heap) :=
 kv1 args fun s_1 =>
 ob (kbinO Tryz.prog .eql 74 true s_1 AV.nilslice) fun v2 =>
 kif v2
  ((some (false, AV.nilslice, h)))
  (ob (abuildSlice Tryz.prog 74 0 []) fun r3 => Heap.pushK h (.cells r3.1 true r3.2.2) fun h4 =>
  ob (aappend Tryz.prog h4 74 74 (.slice (Heap.next h) 0 0 0 r3.2.1) s_1) fun r5 =>
  (some (false, r5.1, r5.2)))
theorem F137_ok {S : FS} {D : FD} (hS : SpecsOK Tryz.prog S) (hD : DynOK Tryz.prog D) : SpecOK Tryz.prog 137 (F137 S D) :=
  SpecOK.of (c := match Tryz.f137.body with | some c => c | none => .skip) (by kernel_rfl) hS hD ⟨Tryz.func137, rfl, by decide⟩
    (.seq .n (.seq (.seq .n (.dup (.seq .n .n) .n)) (.seq .n .n))) 1 (fun args h => by kernel_rfl)
end Go.Rh.Tryz
