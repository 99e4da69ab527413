/- Printed by wip/tools/gen.py: functions of the program as plain functions over abstract values, each with its proof. -/
import Derived.Test.YtepgjdoablhgmaaGreatProg
import Derived.Test.YtepgjdoablhgmaaGreatRh3
set_option maxRecDepth 1000000
set_option linter.unusedVariables false
namespace Go.Rh.Tryz
open Go.Proofs
/-- roundhouse/tally.say[int] -/
noncomputable def F359 (S : FS) (D : FD) (args : List AV) (h : Heap) : Option (Bool × AV × Heap) :=
 kv4 args fun m_1 node_2 x_3 may_4 =>
 knt x_3 (Heap.pushK h (.cells (AV.cells x_3) true 3) fun h5 =>
 ob (alookup Tryz.prog h5 181 m_1 node_2 true) fun v6 =>
 ob (aextract v6 0) fun v7 =>
 ob (aextract v6 1) fun v8 =>
 ob (aun .not v8) fun v9 =>
 kif v9
  ((some (false, (.int .i64 (.ofNat 1)), h5)))
  (ob (kbinO Tryz.prog .neq 198 true v7 AV.nilptr) fun v10 =>
  ob (kgv true v10 (some v7)) fun v11 =>
  ob (kgv true v10 (knil v11)) fun v12 =>
  ob (kgv true v10 (kload h5 v12)) fun v13 =>
  ob (kgv true v10 (kload h5 (.ptr (Heap.next h) 0))) fun v14 =>
  ob (kgv true v10 (kbinI .eql v13 v14)) fun v15 =>
  ob (kpick v10 v15 (.bool false)) fun v16 =>
  kif v16
   ((some (false, (.int .i64 (.ofNat 0)), h5)))
   (ob (kbinO Tryz.prog .neq 198 true v7 AV.nilptr) fun v17 =>
   ob (kgv false v17 (some may_4)) fun v18 =>
   ob (kgv false v17 (aun .not v18)) fun v19 =>
   ob (kpick v17 (.bool true) v19) fun v20 =>
   kif v20
    ((some (false, (.int .i64 (.ofNat 14)), h5)))
    (ob (amapSet Tryz.prog h5 181 m_1 node_2 (.ptr (Heap.next h) 0)) fun h21 =>
    (some (false, (.int .i64 (.ofNat 0)), h21))))))
theorem F359_ok {S : FS} {D : FD} (hS : SpecsOK Tryz.prog S) (hD : DynOK Tryz.prog D) : SpecOK Tryz.prog 359 (F359 S D) :=
  SpecOK.of (c := match Tryz.f359.body with | some c => c | none => .skip) (by kernel_rfl) hS hD ⟨Tryz.func359, rfl, by decide⟩
    (.seq .n (.seq .n (.seq (.one (.seq .n (.dup (.seq .n .n) (.seq .n (.dup (.seq .n .n) (.seq .n (.dup (.seq .n .n) .n))))))) (.seq .n (.seq .n .n))))) 4 (fun args h => by kernel_rfl)
/-- (roundhouse/agent.Order).may -/
noncomputable def F360 (S : FS) (D : FD) (args : List AV) (h : Heap) : Option (Bool × AV × Heap) :=
 kv1 args fun o_1 =>
 knt o_1 (Heap.pushK h (.cells (AV.cells o_1) true 409) fun h2 =>
 ob (kfa 0 (.ptr (Heap.next h) 0)) fun v3 =>
 ob (kload h2 v3) fun v4 =>
 ob (klenS v4) fun v5 =>
 ob (kbinI .leq v5 (.int .i64 (.ofNat 400))) fun v6 =>
 ob (kgv true v6 (kfa 1 (.ptr (Heap.next h) 0))) fun v7 =>
 ob (kgv true v6 (kload h2 v7)) fun v8 =>
 ob (kgc true v6 h2 (S 78 [v8, (.int .i64 (.ofNat 1)), (.int .i64 (.ofNat 32))] h2)) fun r9 => kres r9 (fun v10 h11 =>
 ob (kpick v6 v10 (.bool false)) fun v14 =>
 ob (kgv true v14 (kfa 2 (.ptr (Heap.next h) 0))) fun v15 =>
 ob (kgv true v14 (kload h11 v15)) fun v16 =>
 ob (kgc true v14 h11 (S 78 [v16, (.int .i64 (.ofNat 1)), (.int .i64 (.ofNat 256))] h11)) fun r17 => kres r17 (fun v18 h19 =>
 ob (kpick v14 v18 (.bool false)) fun v22 =>
 ob (kgv true v22 (kfa 3 (.ptr (Heap.next h) 0))) fun v23 =>
 ob (kgv true v22 (kload h19 v23)) fun v24 =>
 ob (kgc true v22 h19 (S 78 [v24, (.int .i64 (.ofNat 0)), (.int .i64 (.ofNat 1))] h19)) fun r25 => kres r25 (fun v26 h27 =>
 ob (kpick v22 v26 (.bool false)) fun v30 =>
 ob (kgv true v30 (kfa 4 (.ptr (Heap.next h) 0))) fun v31 =>
 ob (kgv true v30 (kload h27 v31)) fun v32 =>
 ob (kgc true v30 h27 (S 78 [v32, (.int .i64 (.ofNat 1)), (.int .i64 (.ofNat 1073741824))] h27)) fun r33 => kres r33 (fun v34 h35 =>
 ob (kpick v30 v34 (.bool false)) fun v38 =>
 (some (false, v38, h35))) (fun p36 h37 => (some (true, p36, h37)))) (fun p28 h29 => (some (true, p28, h29)))) (fun p20 h21 => (some (true, p20, h21)))) (fun p12 h13 => (some (true, p12, h13))))
theorem F360_ok {S : FS} {D : FD} (hS : SpecsOK Tryz.prog S) (hD : DynOK Tryz.prog D) : SpecOK Tryz.prog 360 (F360 S D) :=
  SpecOK.of (c := match Tryz.f360.body with | some c => c | none => .skip) (by kernel_rfl) hS hD ⟨Tryz.func360, rfl, by decide⟩
    (.seq .n (.seq .n .n)) 1 (fun args h => by kernel_rfl)
/-- roundhouse/sha.Same -/
noncomputable def F361 (S : FS) (D : FD) (args : List AV) (h : Heap) : Option (Bool × AV × Heap) :=
 kv2 args fun a_1 b_2 =>
 ob (klenS a_1) fun v3 =>
 ob (klenS b_2) fun v4 =>
 ob (kbinI .neq v3 v4) fun v5 =>
 kif v5
  ((some (false, (.bool false), h)))
  (ob (klenS a_1) fun v6 =>
  ob (iterD (fun vs7 ds8 h9 => kv5 vs7 fun a_10 b_11 other_12 v13 v14 =>
   ob (kbinI .lss v14 v13) fun v15 =>
   kif v15
    (ob (kixS a_10 v14) fun v16 =>
    ob (kixS b_11 v14) fun v17 =>
    ob (kbinI .xor v16 v17) fun v18 =>
    ob (kbinI .or other_12 v18) fun v19 =>
    ob (kbinI .add v14 (.int .i64 (.ofNat 1))) fun v20 =>
    (some ⟨0, [a_10, b_11, v19, v13, v20], ds8, h9⟩))
    ((some ⟨1, [other_12], ds8, h9⟩))) rounds [a_1, b_2, (.int .u8 (.ofNat 0)), v6, (.int .i64 (.ofNat 0))] [] h) fun r21 => kcase (J.i r21) [kv1 (J.vs r21) fun other_22 =>
   ob (kbinI .eql other_22 (.int .u8 (.ofNat 0))) fun v23 =>
   (dleave (fun h24 => (some (false, v23, h24))) (J.ds r21) (J.h r21))])
theorem F361_ok {S : FS} {D : FD} (hS : SpecsOK Tryz.prog S) (hD : DynOK Tryz.prog D) : SpecOK Tryz.prog 361 (F361 S D) :=
  SpecOK.of (c := match Tryz.f361.body with | some c => c | none => .skip) (by kernel_rfl) hS hD ⟨Tryz.func361, rfl, by decide⟩
    (.seq .n (.seq (.seq .n (.dup (.seq .n .n) .n)) (.seq .n (.seq (.seq .n (.one (.loop [0, 1, 5, 13, 14] [(.exit 0, [5])] (.seq .n (.seq (.dup .n .n) (.seq (.one (.seq .n .n)) .n)))))) (.seq .n .n))))) 2 (fun args h => by kernel_rfl)
/-- roundhouse/sha.Hmac -/
noncomputable def F362 (S : FS) (D : FD) (args : List AV) (h : Heap) : Option (Bool × AV × Heap) :=
 kv2 args fun key_1 s_2 =>
 ob (klenS key_1) fun v3 =>
 ob (kbinI .gtr v3 (.int .i64 (.ofNat 64))) fun v4 =>
 ob (kif v4
  (ob (S 274 [key_1] h) fun r6 => kres r6 (fun v7 h8 =>
  (some ⟨0, [v7, s_2], [], h8⟩)) (fun p9 h10 => (some ⟨1, [p9], [], h10⟩)))
  ((some ⟨0, [key_1, s_2], [], h⟩))) fun r5 => kcase (J.i r5) [kv2 (J.vs r5) fun key_11 s_12 =>
  ob (S 390 [key_11, (.int .u8 (.ofNat 92))] (J.h r5)) fun r13 => kres r13 (fun v14 h15 =>
  ob (S 390 [key_11, (.int .u8 (.ofNat 54))] h15) fun r18 => kres r18 (fun v19 h20 =>
  ob (kbinS .add v19 s_12) fun v23 =>
  ob (S 274 [v23] h20) fun r24 => kres r24 (fun v25 h26 =>
  ob (kbinS .add v14 v25) fun v29 =>
  ob (S 274 [v29] h26) fun r30 => kres r30 (fun v31 h32 =>
  (dleave (fun h35 => (some (false, v31, h35))) (J.ds r5) h32)) (fun p33 h34 => (kds (J.ds r5) (some (true, p33, h34))))) (fun p27 h28 => (kds (J.ds r5) (some (true, p27, h28))))) (fun p21 h22 => (kds (J.ds r5) (some (true, p21, h22))))) (fun p16 h17 => (kds (J.ds r5) (some (true, p16, h17)))),
 kv1 (J.vs r5) fun p36 => (kds (J.ds r5) (some (true, p36, (J.h r5))))]
theorem F362_ok {S : FS} {D : FD} (hS : SpecsOK Tryz.prog S) (hD : DynOK Tryz.prog D) : SpecOK Tryz.prog 362 (F362 S D) :=
  SpecOK.of (c := match Tryz.f362.body with | some c => c | none => .skip) (by kernel_rfl) hS hD ⟨Tryz.func362, rfl, by decide⟩
    (.seq .n (.seq (.seq .n (.join [(.norm, [0, 1]), (.pan, [])] (.dup .n .n))) (.seq .n .n))) 2 (fun args h => by kernel_rfl)
/-- roundhouse/cred.Decode -/
noncomputable def F363 (S : FS) (D : FD) (args : List AV) (h : Heap) : Option (Bool × AV × Heap) :=
 kv1 args fun s_1 =>
 Heap.pushK h (.cells [(.int .i64 (.ofNat 0)), (.int .i64 (.ofNat 0)), (.int .i64 (.ofNat 0)), (.int .i64 (.ofNat 0)), (.int .i64 (.ofNat 0)), AV.nilslice, (.int .i64 (.ofNat 0))] true 413) fun h2 =>
 ob (S 106 [s_1] h2) fun r3 => kres r3 (fun v4 h5 =>
 ob (S 107 [v4] h5) fun r8 => kres r8 (fun v9 h10 =>
 ob (S 107 [v4] h10) fun r13 => kres r13 (fun v14 h15 =>
 ob (S 107 [v4] h15) fun r18 => kres r18 (fun v19 h20 =>
 ob (S 107 [v4] h20) fun r23 => kres r23 (fun v24 h25 =>
 ob (S 107 [v4] h25) fun r28 => kres r28 (fun v29 h30 =>
 ob (S 107 [v4] h30) fun r33 => kres r33 (fun v34 h35 =>
 ob (S 108 [v4, (.int .i64 (.ofNat 16))] h35) fun r38 => kres r38 (fun v39 h40 =>
 ob (abuild Tryz.prog 413 [(0, v9), (1, v14), (2, v19), (3, v24), (4, v29), (6, v34), (5, v39)]) fun v43 =>
 Heap.pushK h40 (.cells [(.int .i64 (.ofNat 0)), (.int .i64 (.ofNat 0)), (.int .i64 (.ofNat 0)), (.int .i64 (.ofNat 0)), (.int .i64 (.ofNat 0)), AV.nilslice, (.int .i64 (.ofNat 0))] true 413) fun h44 =>
 ob (kstore 7 (.ptr (Heap.next h40) 0) v43 h44) fun h45 =>
 ob (S 109 [v4] h45) fun r46 => kres r46 (fun v47 h48 =>
 ob (aextract v47 0) fun v51 =>
 ob (aextract v47 1) fun v52 =>
 ob (kbinI .neq v51 (.int .i64 (.ofNat 0))) fun v53 =>
 kif v53
  (ob (abuild Tryz.prog 413 []) fun v54 =>
  ob (kstore 7 (.ptr (Heap.next h) 0) v54 h48) fun h55 =>
  ob (kloadN 7 h55 (.ptr (Heap.next h) 0)) fun v56 => (some (false, (.tuple [v56, v51]), h55)))
  (ob (kloadN 7 h48 (.ptr (Heap.next h40) 0)) fun v57 =>
  ob (S 365 [v57] h48) fun r58 => kres r58 (fun v59 h60 =>
  ob (kbinI .neq v59 (.int .i64 (.ofNat 0))) fun v63 =>
  kif v63
   (ob (abuild Tryz.prog 413 []) fun v64 =>
   ob (kstore 7 (.ptr (Heap.next h) 0) v64 h60) fun h65 =>
   ob (kloadN 7 h65 (.ptr (Heap.next h) 0)) fun v66 => (some (false, (.tuple [v66, (.int .i64 (.ofNat 5))]), h65)))
   (ob (kloadN 7 h60 (.ptr (Heap.next h40) 0)) fun v67 =>
   ob (kstore 7 (.ptr (Heap.next h) 0) v67 h60) fun h68 =>
   ob (kloadN 7 h68 (.ptr (Heap.next h) 0)) fun v69 => (some (false, (.tuple [v69, (.int .i64 (.ofNat 0))]), h68)))) (fun p61 h62 => (some (true, p61, h62))))) (fun p49 h50 => (some (true, p49, h50)))) (fun p41 h42 => (some (true, p41, h42)))) (fun p36 h37 => (some (true, p36, h37)))) (fun p31 h32 => (some (true, p31, h32)))) (fun p26 h27 => (some (true, p26, h27)))) (fun p21 h22 => (some (true, p21, h22)))) (fun p16 h17 => (some (true, p16, h17)))) (fun p11 h12 => (some (true, p11, h12)))) (fun p6 h7 => (some (true, p6, h7)))
theorem F363_ok {S : FS} {D : FD} (hS : SpecsOK Tryz.prog S) (hD : DynOK Tryz.prog D) : SpecOK Tryz.prog 363 (F363 S D) :=
  SpecOK.of (c := match Tryz.f363.body with | some c => c | none => .skip) (by kernel_rfl) hS hD ⟨Tryz.func363, rfl, by decide⟩
    (.seq .n (.seq .n (.seq .n (.seq (.seq .n (.seq .n (.dup (.seq .n .n) .n))) (.seq (.seq .n (.dup (.seq .n .n) .n)) (.seq .n .n)))))) 1 (fun args h => by kernel_rfl)
/-- roundhouse/cred.Allows$1 -/
noncomputable def F364 (S : FS) (D : FD) (args : List AV) (h : Heap) : Option (Bool × AV × Heap) :=
 kv1 args fun v1 =>
 ob (kloadN 7 h v1) fun v2 =>
 ob (S 365 [v2] h) fun r3 => kres r3 (fun v4 h5 =>
 ob (kbinI .eql v4 (.int .i64 (.ofNat 0))) fun v8 =>
 (some (false, v8, h5))) (fun p6 h7 => (some (true, p6, h7)))
theorem F364_ok {S : FS} {D : FD} (hS : SpecsOK Tryz.prog S) (hD : DynOK Tryz.prog D) : SpecOK Tryz.prog 364 (F364 S D) :=
  SpecOK.of (c := match Tryz.f364.body with | some c => c | none => .skip) (by kernel_rfl) hS hD ⟨Tryz.func364, rfl, by decide⟩
    (.seq .n (.seq .n .n)) 1 (fun args h => by kernel_rfl)
/-- roundhouse/cred.Check -/
noncomputable def F365 (S : FS) (D : FD) (args : List AV) (h : Heap) : Option (Bool × AV × Heap) :=
 kv1 args fun c_1 =>
 knt c_1 (Heap.pushK h (.cells (AV.cells c_1) true 413) fun h2 =>
 ob (kfa 0 (.ptr (Heap.next h) 0)) fun v3 =>
 ob (kload h2 v3) fun v4 =>
 ob (D (.func 391 []) [v4] h2) fun r5 => kres r5 (fun v6 h7 =>
 ob (aun .not v6) fun v10 =>
 ob (kgv false v10 (some (.func 391 []))) fun v11 =>
 ob (kgv false v10 (kfa 2 (.ptr (Heap.next h) 0))) fun v12 =>
 ob (kgv false v10 (kload h7 v12)) fun v13 =>
 ob (kgc false v10 h7 (D v11 [v13] h7)) fun r14 => kres r14 (fun v15 h16 =>
 ob (kgv false v10 (aun .not v15)) fun v19 =>
 ob (kpick v10 (.bool true) v19) fun v20 =>
 ob (kgv false v20 (some (.func 391 []))) fun v21 =>
 ob (kgv false v20 (kfa 3 (.ptr (Heap.next h) 0))) fun v22 =>
 ob (kgv false v20 (kload h16 v22)) fun v23 =>
 ob (kgc false v20 h16 (D v21 [v23] h16)) fun r24 => kres r24 (fun v25 h26 =>
 ob (kgv false v20 (aun .not v25)) fun v29 =>
 ob (kpick v20 (.bool true) v29) fun v30 =>
 ob (kgv false v30 (some (.func 391 []))) fun v31 =>
 ob (kgv false v30 (kfa 4 (.ptr (Heap.next h) 0))) fun v32 =>
 ob (kgv false v30 (kload h26 v32)) fun v33 =>
 ob (kgc false v30 h26 (D v31 [v33] h26)) fun r34 => kres r34 (fun v35 h36 =>
 ob (kgv false v30 (aun .not v35)) fun v39 =>
 ob (kpick v30 (.bool true) v39) fun v40 =>
 ob (kgv false v40 (kfa 1 (.ptr (Heap.next h) 0))) fun v41 =>
 ob (kgv false v40 (kload h36 v41)) fun v42 =>
 ob (kgc false v40 h36 (S 368 [v42, (.int .i64 (.ofNat 0)), (.int .i64 (.ofNat 8))] h36)) fun r43 => kres r43 (fun v44 h45 =>
 ob (kgv false v40 (aun .not v44)) fun v48 =>
 ob (kpick v40 (.bool true) v48) fun v49 =>
 ob (kgv false v49 (kfa 6 (.ptr (Heap.next h) 0))) fun v50 =>
 ob (kgv false v49 (kload h45 v50)) fun v51 =>
 ob (kgc false v49 h45 (S 368 [v51, (.int .i64 (.ofNat 1)), (.int .i64 (.ofNat 256))] h45)) fun r52 => kres r52 (fun v53 h54 =>
 ob (kgv false v49 (aun .not v53)) fun v57 =>
 ob (kpick v49 (.bool true) v57) fun v58 =>
 ob (kgv false v58 (kfa 5 (.ptr (Heap.next h) 0))) fun v59 =>
 ob (kgv false v58 (kload h54 v59)) fun v60 =>
 ob (kgc false v58 h54 (S 392 [v60] h54)) fun r61 => kres r61 (fun v62 h63 =>
 ob (kgv false v58 (aun .not v62)) fun v66 =>
 ob (kpick v58 (.bool true) v66) fun v67 =>
 kif v67
  ((some (false, (.int .i64 (.ofNat 1)), h63)))
  ((some (false, (.int .i64 (.ofNat 0)), h63)))) (fun p64 h65 => (some (true, p64, h65)))) (fun p55 h56 => (some (true, p55, h56)))) (fun p46 h47 => (some (true, p46, h47)))) (fun p37 h38 => (some (true, p37, h38)))) (fun p27 h28 => (some (true, p27, h28)))) (fun p17 h18 => (some (true, p17, h18)))) (fun p8 h9 => (some (true, p8, h9))))
theorem F365_ok {S : FS} {D : FD} (hS : SpecsOK Tryz.prog S) (hD : DynOK Tryz.prog D) : SpecOK Tryz.prog 365 (F365 S D) :=
  SpecOK.of (c := match Tryz.f365.body with | some c => c | none => .skip) (by kernel_rfl) hS hD ⟨Tryz.func365, rfl, by decide⟩
    (.seq .n (.seq .n (.seq (.seq .n (.dup (.seq .n .n) .n)) (.seq .n .n)))) 1 (fun args h => by kernel_rfl)
/-- roundhouse/cred.Allows$2 -/
noncomputable def F366 (S : FS) (D : FD) (args : List AV) (h : Heap) : Option (Bool × AV × Heap) :=
 kv2 args fun v1 v2 =>
 ob (kfa 0 v1) fun v3 =>
 ob (kload h v3) fun v4 =>
 ob (kfa 0 v2) fun v5 =>
 ob (kload h v5) fun v6 =>
 ob (kbinI .eql v4 v6) fun v7 =>
 ob (kgv true v7 (kfa 1 v1)) fun v8 =>
 ob (kgv true v7 (kload h v8)) fun v9 =>
 ob (kgv true v7 (kfa 1 v2)) fun v10 =>
 ob (kgv true v7 (kload h v10)) fun v11 =>
 ob (kgv true v7 (kbinI .eql v9 v11)) fun v12 =>
 ob (kpick v7 v12 (.bool false)) fun v13 =>
 ob (kgv true v13 (kfa 2 v1)) fun v14 =>
 ob (kgv true v13 (kload h v14)) fun v15 =>
 ob (kgv true v13 (kfa 2 v2)) fun v16 =>
 ob (kgv true v13 (kload h v16)) fun v17 =>
 ob (kgv true v13 (kbinI .eql v15 v17)) fun v18 =>
 ob (kpick v13 v18 (.bool false)) fun v19 =>
 (some (false, v19, h))
theorem F366_ok {S : FS} {D : FD} (hS : SpecsOK Tryz.prog S) (hD : DynOK Tryz.prog D) : SpecOK Tryz.prog 366 (F366 S D) :=
  SpecOK.of (c := match Tryz.f366.body with | some c => c | none => .skip) (by kernel_rfl) hS hD ⟨Tryz.func366, rfl, by decide⟩
    (.seq .n (.seq .n .n)) 2 (fun args h => by kernel_rfl)
/-- roundhouse/cred.Allows$3 -/
noncomputable def F367 (S : FS) (D : FD) (args : List AV) (h : Heap) : Option (Bool × AV × Heap) :=
 kv2 args fun v1 v2 =>
 ob (kfa 5 v1) fun v3 =>
 ob (kload h v3) fun v4 =>
 ob (kfa 3 v2) fun v5 =>
 ob (kload h v5) fun v6 =>
 ob (S 114 [v4, v6] h) fun r7 => kres r7 (fun v8 h9 =>
 ob (kgv true v8 (kfa 4 v2)) fun v12 =>
 ob (kgv true v8 (kload h9 v12)) fun v13 =>
 ob (kgv true v8 (kfa 6 v1)) fun v14 =>
 ob (kgv true v8 (kload h9 v14)) fun v15 =>
 ob (kgc true v8 h9 (S 368 [v13, (.int .i64 (.ofNat 1)), v15] h9)) fun r16 => kres r16 (fun v17 h18 =>
 ob (kpick v8 v17 (.bool false)) fun v21 =>
 (some (false, v21, h18))) (fun p19 h20 => (some (true, p19, h20)))) (fun p10 h11 => (some (true, p10, h11)))
theorem F367_ok {S : FS} {D : FD} (hS : SpecsOK Tryz.prog S) (hD : DynOK Tryz.prog D) : SpecOK Tryz.prog 367 (F367 S D) :=
  SpecOK.of (c := match Tryz.f367.body with | some c => c | none => .skip) (by kernel_rfl) hS hD ⟨Tryz.func367, rfl, by decide⟩
    (.seq .n (.seq .n .n)) 2 (fun args h => by kernel_rfl)
/-- roundhouse/cred.in -/
noncomputable def F368 (S : FS) (D : FD) (args : List AV) (h : Heap) : Option (Bool × AV × Heap) :=
 kv3 args fun n_1 least_2 most_3 =>
 ob (kbinI .geq n_1 least_2) fun v4 =>
 ob (kgv true v4 (some n_1)) fun v5 =>
 ob (kgv true v4 (some most_3)) fun v6 =>
 ob (kgv true v4 (kbinI .leq v5 v6)) fun v7 =>
 ob (kpick v4 v7 (.bool false)) fun v8 =>
 (some (false, v8, h))
theorem F368_ok {S : FS} {D : FD} (hS : SpecsOK Tryz.prog S) (hD : DynOK Tryz.prog D) : SpecOK Tryz.prog 368 (F368 S D) :=
  SpecOK.of (c := match Tryz.f368.body with | some c => c | none => .skip) (by kernel_rfl) hS hD ⟨Tryz.func368, rfl, by decide⟩
    (.seq .n (.seq .n .n)) 3 (fun args h => by kernel_rfl)
/-- roundhouse/cred.Allows$4 -/
noncomputable def F369 (S : FS) (D : FD) (args : List AV) (h : Heap) : Option (Bool × AV × Heap) :=
 kv2 args fun v1 v2 =>
 ob (kfa 5 v1) fun v3 =>
 ob (kload h v3) fun v4 =>
 ob (kfa 3 v2) fun v5 =>
 ob (kload h v5) fun v6 =>
 ob (kbinI .geq v4 v6) fun v7 =>
 ob (kgv true v7 (kfa 5 v1)) fun v8 =>
 ob (kgv true v7 (kload h v8)) fun v9 =>
 ob (kgv true v7 (kfa 4 v2)) fun v10 =>
 ob (kgv true v7 (kload h v10)) fun v11 =>
 ob (kgv true v7 (kbinI .lss v9 v11)) fun v12 =>
 ob (kpick v7 v12 (.bool false)) fun v13 =>
 (some (false, v13, h))
theorem F369_ok {S : FS} {D : FD} (hS : SpecsOK Tryz.prog S) (hD : DynOK Tryz.prog D) : SpecOK Tryz.prog 369 (F369 S D) :=
  SpecOK.of (c := match Tryz.f369.body with | some c => c | none => .skip) (by kernel_rfl) hS hD ⟨Tryz.func369, rfl, by decide⟩
    (.seq .n (.seq .n .n)) 2 (fun args h => by kernel_rfl)
/-- (*roundhouse/replay.Cache).Revoked -/
noncomputable def F370 (S : FS) (D : FD) (args : List AV) (h : Heap) : Option (Bool × AV × Heap) :=
 kv2 args fun c_1 x_2 =>
 knt x_2 (Heap.pushK h (.cells (AV.cells x_2) true 413) fun h3 =>
 ob (kbinO Tryz.prog .eql 87 true c_1 AV.nilptr) fun v4 =>
 kif v4
  ((some (false, (.bool false), h3)))
  (ob (knil c_1) fun v5 =>
  ob (kfa 2 v5) fun v6 =>
  ob (kload h3 v6) fun v7 =>
  ob (kfa 0 (.ptr (Heap.next h) 0)) fun v8 =>
  ob (kload h3 v8) fun v9 =>
  ob (alookup Tryz.prog h3 88 v7 v9 true) fun v10 =>
  ob (aextract v10 0) fun v11 =>
  ob (aextract v10 1) fun v12 =>
  ob (kgv true v12 (some v11)) fun v13 =>
  ob (kgv true v12 (kfa 1 (.ptr (Heap.next h) 0))) fun v14 =>
  ob (kgv true v12 (kload h3 v14)) fun v15 =>
  ob (kgv true v12 (kbinI .geq v13 v15)) fun v16 =>
  ob (kpick v12 v16 (.bool false)) fun v17 =>
  (some (false, v17, h3))))
theorem F370_ok {S : FS} {D : FD} (hS : SpecsOK Tryz.prog S) (hD : DynOK Tryz.prog D) : SpecOK Tryz.prog 370 (F370 S D) :=
  SpecOK.of (c := match Tryz.f370.body with | some c => c | none => .skip) (by kernel_rfl) hS hD ⟨Tryz.func370, rfl, by decide⟩
    (.seq .n (.seq (.seq .n (.dup (.seq .n .n) .n)) (.seq .n (.seq .n .n)))) 2 (fun args h => by kernel_rfl)
/-- maps.DeleteFunc[map[roundhouse/replay.place]int,roundhouse/replay.place,int] -/
noncomputable def F371 (S : FS) (D : FD) (args : List AV) (h : Heap) : Option (Bool × AV × Heap) :=
 kv2 args fun m_1 del_2 =>
 ob (arangeM Tryz.prog h 279 m_1) fun r3 =>
 ob (iterD (fun vs4 ds5 h6 => kv3 vs4 fun m_7 del_8 v9 =>
  ob (anext h6 v9 false) fun r10 =>
  ob (aextract r10.1 0) fun v11 =>
  kif v11
   (ob (aentry r10.2 v9) fun v12 =>
   ob (aextract v12 0) fun v13 =>
   ob (aextract v12 1) fun v14 =>
   Heap.pushK r10.2 (.cells [(.int .i64 (.ofNat 0)), (.int .i64 (.ofNat 0)), (.int .i64 (.ofNat 0))] true 474) fun h15 =>
   ob (kstore 3 (.ptr (Heap.next r10.2) 0) v13 h15) fun h16 =>
   ob (kloadN 3 h16 (.ptr (Heap.next r10.2) 0)) fun v17 =>
   ob (D del_8 [v17, v14] h16) fun r18 => kres r18 (fun v19 h20 =>
   ob (kif v19
    (ob (kloadN 3 h20 (.ptr (Heap.next r10.2) 0)) fun v24 =>
    ob (amapDel Tryz.prog h20 279 m_7 v24) fun h25 =>
    (some ⟨0, [m_7, del_8, v9], ds5, h25⟩))
    ((some ⟨0, [m_7, del_8, v9], ds5, h20⟩))) fun r23 => kcase (J.i r23) [kv3 (J.vs r23) fun m_26 del_27 v28 =>
    (some ⟨0, [m_26, del_27, v28], (J.ds r23), (J.h r23)⟩)]) (fun p21 h22 => (some ⟨2, [p21], ds5, h22⟩)))
   ((some ⟨1, [], ds5, r10.2⟩))) rounds [m_1, del_2, r3.1] [] r3.2) fun r29 => kcase (J.i r29) [kv0 (J.vs r29) ((dleave (fun h30 => (some (false, (.tuple []), h30))) (J.ds r29) (J.h r29))),
 kv1 (J.vs r29) fun p31 => (kds (J.ds r29) (some (true, p31, (J.h r29))))]
theorem F371_ok {S : FS} {D : FD} (hS : SpecsOK Tryz.prog S) (hD : DynOK Tryz.prog D) : SpecOK Tryz.prog 371 (F371 S D) :=
  SpecOK.of (c := match Tryz.f371.body with | some c => c | none => .skip) (by kernel_rfl) hS hD ⟨Tryz.func371, rfl, by decide⟩
    (.seq .n (.one (.loop [0, 1, 7] [(.exit 0, []), (.pan, [])] (.seq .n (.seq (.dup .n .n) (.one (.seq .n (.seq .n (.join [(.norm, [0, 1, 7])] (.dup .n .n)))))))))) 2 (fun args h => by kernel_rfl)
/-- (*roundhouse/replay.Cache).Use$1 -/
noncomputable def F372 (S : FS) (D : FD) (args : List AV) (h : Heap) : Option (Bool × AV × Heap) :=
 kv3 args fun v1 until_2 v3 =>
 knt v1 (Heap.pushK h (.cells (AV.cells v1) true 474) fun h4 =>
 ob (kload h4 v3) fun v5 =>
 ob (kbinI .leq until_2 v5) fun v6 =>
 (some (false, v6, h4)))
theorem F372_ok {S : FS} {D : FD} (hS : SpecsOK Tryz.prog S) (hD : DynOK Tryz.prog D) : SpecOK Tryz.prog 372 (F372 S D) :=
  SpecOK.of (c := match Tryz.f372.body with | some c => c | none => .skip) (by kernel_rfl) hS hD ⟨Tryz.func372, rfl, by decide⟩
    (.seq .n (.seq .n .n)) 3 (fun args h => by kernel_rfl)
/-- roundhouse/replay.of -/
noncomputable def F373 (S : FS) (D : FD) (args : List AV) (h : Heap) : Option (Bool × AV × Heap) :=
 kv1 args fun x_1 =>
 knt x_1 (Heap.pushK h (.cells (AV.cells x_1) true 413) fun h2 =>
 Heap.pushK h2 (.cells [(.int .i64 (.ofNat 0)), (.int .i64 (.ofNat 0)), (.int .i64 (.ofNat 0))] true 474) fun h3 =>
 ob (kfa 0 (.ptr (Heap.next h) 0)) fun v4 =>
 ob (kload h3 v4) fun v5 =>
 ob (kfa 1 (.ptr (Heap.next h) 0)) fun v6 =>
 ob (kload h3 v6) fun v7 =>
 ob (kfa 2 (.ptr (Heap.next h) 0)) fun v8 =>
 ob (kload h3 v8) fun v9 =>
 ob (abuild Tryz.prog 474 [(0, v5), (1, v7), (2, v9)]) fun v10 =>
 ob (kstore 3 (.ptr (Heap.next h2) 0) v10 h3) fun h11 =>
 ob (kloadN 3 h11 (.ptr (Heap.next h2) 0)) fun v12 => (some (false, v12, h11)))
theorem F373_ok {S : FS} {D : FD} (hS : SpecsOK Tryz.prog S) (hD : DynOK Tryz.prog D) : SpecOK Tryz.prog 373 (F373 S D) :=
  SpecOK.of (c := match Tryz.f373.body with | some c => c | none => .skip) (by kernel_rfl) hS hD ⟨Tryz.func373, rfl, by decide⟩
    (.seq .n (.seq .n .n)) 1 (fun args h => by kernel_rfl)
/-- (*roundhouse/agent.Agent).spawn$1 -/
noncomputable def F375 (S : FS) (D : FD) (args : List AV) (h : Heap) : Option (Bool × AV × Heap) :=
 kv3 args fun v1 v2 v3 =>
 ob (kload h v1) fun v4 =>
 ob (aun .not v4) fun v5 =>
 ob (kif v5
  (ob (kload h v2) fun v7 =>
  ob (kload h v3) fun v8 =>
  ob (S 188 [v7, v8, (.int .i64 (.ofNat 9))] h) fun r9 => kres r9 (fun v10 h11 =>
  ob (kload h11 v2) fun v14 =>
  ob (kload h11 v3) fun v15 =>
  ob (S 260 [v14, v15] h11) fun r16 => kres r16 (fun v17 h18 =>
  ob (kstore 1 v3 AV.nilslice h18) fun h21 =>
  (some ⟨0, [], [], h21⟩)) (fun p19 h20 => (some ⟨1, [p19], [], h20⟩))) (fun p12 h13 => (some ⟨1, [p12], [], h13⟩)))
  ((some ⟨0, [], [], h⟩))) fun r6 => kcase (J.i r6) [kv0 (J.vs r6) ((dleave (fun h22 => (some (false, (.tuple []), h22))) (J.ds r6) (J.h r6))),
 kv1 (J.vs r6) fun p23 => (kds (J.ds r6) (some (true, p23, (J.h r6))))]
theorem F375_ok {S : FS} {D : FD} (hS : SpecsOK Tryz.prog S) (hD : DynOK Tryz.prog D) : SpecOK Tryz.prog 375 (F375 S D) :=
  SpecOK.of (c := match Tryz.f375.body with | some c => c | none => .skip) (by kernel_rfl) hS hD ⟨Tryz.func375, rfl, by decide⟩
    (.seq .n (.join [(.norm, []), (.pan, [])] (.dup (.seq .n (.seq .n .n)) .n))) 3 (fun args h => by kernel_rfl)
/-- (*roundhouse/procs.Table).Spawn -/
noncomputable def F376 (S : FS) (D : FD) (args : List AV) (h : Heap) : Option (Bool × AV × Heap) :=
 kv2 args fun t_1 x_2 =>
 knt x_2 (Heap.pushK h (.cells (AV.cells x_2) true 39) fun h3 =>
 ob (kbinO Tryz.prog .eql 75 true t_1 AV.nilptr) fun v4 =>
 ob (kgv false v4 (kloadN 8 h3 (.ptr (Heap.next h) 0))) fun v5 =>
 ob (kgc false v4 h3 (S 394 [v5] h3)) fun r6 => kres r6 (fun v7 h8 =>
 ob (kgv false v4 (aun .not v7)) fun v11 =>
 ob (kpick v4 (.bool true) v11) fun v12 =>
 kif v12
  ((some (false, (.tuple [(.int .i64 (.ofNat 0)), (.int .i64 (.ofNat 1))]), h8)))
  (ob (knil t_1) fun v13 =>
  ob (kfa 0 v13) fun v14 =>
  ob (kload h8 v14) fun v15 =>
  ob (klenM h8 v15) fun v16 =>
  ob (kbinI .eql v16 (.int .i64 (.ofNat 256))) fun v17 =>
  kif v17
   ((some (false, (.tuple [(.int .i64 (.ofNat 0)), (.int .i64 (.ofNat 6))]), h8)))
   (ob (knil t_1) fun v18 =>
   ob (kfa 1 v18) fun v19 =>
   ob (kload h8 v19) fun v20 =>
   ob (kbinI .add v20 (.int .i64 (.ofNat 1))) fun v21 =>
   ob (knil t_1) fun v22 =>
   ob (kfa 1 v22) fun v23 =>
   ob (kstore 1 v23 v21 h8) fun h24 =>
   ob (knil t_1) fun v25 =>
   ob (kfa 1 v25) fun v26 =>
   ob (kload h24 v26) fun v27 =>
   ob (kfa 0 (.ptr (Heap.next h) 0)) fun v28 =>
   ob (kstore 1 v28 v27 h24) fun h29 =>
   ob (kfa 6 (.ptr (Heap.next h) 0)) fun v30 =>
   ob (kstore 1 v30 (.int .i64 (.ofNat 0)) h29) fun h31 =>
   ob (kfa 7 (.ptr (Heap.next h) 0)) fun v32 =>
   ob (kstore 1 v32 (.int .i64 (.ofNat 0)) h31) fun h33 =>
   ob (kfa 5 (.ptr (Heap.next h) 0)) fun v34 =>
   ob (kload h33 v34) fun v35 =>
   ob (S 40 [v35] h33) fun r36 => kres r36 (fun v37 h38 =>
   ob (kfa 5 (.ptr (Heap.next h) 0)) fun v41 =>
   ob (kstore 1 v41 v37 h38) fun h42 =>
   ob (knil t_1) fun v43 =>
   ob (kfa 0 v43) fun v44 =>
   ob (kload h42 v44) fun v45 =>
   ob (knil t_1) fun v46 =>
   ob (kfa 1 v46) fun v47 =>
   ob (kload h42 v47) fun v48 =>
   ob (kloadN 8 h42 (.ptr (Heap.next h) 0)) fun v49 =>
   ob (abuild Tryz.prog 139 [(0, v49)]) fun v50 =>
   kfree h42 (knt v50 (Heap.pushK h42 (.cells (AV.cells v50) true 139) fun h51 =>
   ob (amapSet Tryz.prog h51 134 v45 v48 (.ptr (Heap.next h42) 0)) fun h52 =>
   ob (knil t_1) fun v53 =>
   ob (kfa 1 v53) fun v54 =>
   ob (kload h52 v54) fun v55 =>
   (some (false, (.tuple [v55, (.int .i64 (.ofNat 0))]), h52))))) (fun p39 h40 => (some (true, p39, h40)))))) (fun p9 h10 => (some (true, p9, h10))))
theorem F376_ok {S : FS} {D : FD} (hS : SpecsOK Tryz.prog S) (hD : DynOK Tryz.prog D) : SpecOK Tryz.prog 376 (F376 S D) :=
  SpecOK.of (c := match Tryz.f376.body with | some c => c | none => .skip) (by kernel_rfl) hS hD ⟨Tryz.func376, rfl, by decide⟩
    (.seq .n (.seq (.one (.seq .n (.dup (.seq .n .n) (.seq .n (.dup (.seq .n .n) .n))))) (.seq .n (.seq .n (.seq .n (.seq .n (.seq .n .n))))))) 2 (fun args h => by kernel_rfl)
/-- (roundhouse/mask.Mask).List -/
noncomputable def F377 (S : FS) (D : FD) (args : List AV) (h : Heap) : Option (Bool × AV × Heap) :=
 kv1 args fun m_1 =>
 knt m_1 (Heap.pushK h (.cells (AV.cells m_1) true 98) fun h2 =>
 ob (kloadN 4 h2 (.ptr (Heap.next h) 0)) fun v3 =>
 ob (S 395 [v3] h2) fun r4 => kres r4 (fun v5 h6 =>
 ob (S 96 [v5] h6) fun r9 => kres r9 (fun v10 h11 =>
 (some (false, v10, h11))) (fun p12 h13 => (some (true, p12, h13)))) (fun p7 h8 => (some (true, p7, h8))))
theorem F377_ok {S : FS} {D : FD} (hS : SpecsOK Tryz.prog S) (hD : DynOK Tryz.prog D) : SpecOK Tryz.prog 377 (F377 S D) :=
  SpecOK.of (c := match Tryz.f377.body with | some c => c | none => .skip) (by kernel_rfl) hS hD ⟨Tryz.func377, rfl, by decide⟩
    (.seq .n (.seq .n .n)) 1 (fun args h => by kernel_rfl)
/-- (*roundhouse/node.asked).newer -/
noncomputable def F378 (S : FS) (D : FD) (args : List AV) (h : Heap) : Option (Bool × AV × Heap) :=
 kv1 args fun x_1 =>
 knt x_1 (Heap.pushK h (.cells (AV.cells x_1) true 404) fun h2 =>
 ob (kload h2 (.ptr (Heap.next h) 0)) fun v3 =>
 ob (knil v3) fun v4 =>
 ob (kfa 9 v4) fun v5 =>
 ob (kfa 0 v5) fun v6 =>
 ob (kload h2 v6) fun v7 =>
 ob (S 345 [v7, (.func 396 [(.ptr (Heap.next h) 0)])] h2) fun r8 => kres r8 (fun v9 h10 =>
 (some (false, v9, h10))) (fun p11 h12 => (some (true, p11, h12))))
theorem F378_ok {S : FS} {D : FD} (hS : SpecsOK Tryz.prog S) (hD : DynOK Tryz.prog D) : SpecOK Tryz.prog 378 (F378 S D) :=
  SpecOK.of (c := match Tryz.f378.body with | some c => c | none => .skip) (by kernel_rfl) hS hD ⟨Tryz.func378, rfl, by decide⟩
    (.seq .n (.seq .n .n)) 1 (fun args h => by kernel_rfl)
/-- roundhouse/wire.List -/
noncomputable def F379 (S : FS) (D : FD) (args : List AV) (h : Heap) : Option (Bool × AV × Heap) :=
 kv1 args fun l_1 =>
 ob (klenL l_1) fun v2 =>
 ob (kbinI .gtr v2 (.int .i64 (.ofNat 4096))) fun v3 =>
 kif v3
  ((some (false, (.str 0 0), h)))
  (Heap.pushK h (.cells [AV.nilptr, AV.nilslice] true 347) fun h4 =>
  ob (klenL l_1) fun v5 =>
  ob (S 241 [v5] h4) fun r6 => kres r6 (fun v7 h8 =>
  ob (S 240 [(.ptr (Heap.next h) 0), v7] h8) fun r11 => kres r11 (fun v12 h13 =>
  ob (klenL l_1) fun v16 =>
  ob (iterD (fun vs17 ds18 h19 => kv4 vs17 fun out_20 v21 v22 v23 =>
   ob (kbinI .lss v23 v22) fun v24 =>
   kif v24
    (ob (kia 1 v21 v23) fun v25 =>
    ob (kload h19 v25) fun v26 =>
    ob (S 212 [v26] h19) fun r27 => kres r27 (fun v28 h29 =>
    ob (aun .not v28) fun v32 =>
    kif v32
     ((some ⟨2, [(.str 0 0)], ds18, h29⟩))
     (ob (S 241 [v26] h29) fun r33 => kres r33 (fun v34 h35 =>
     ob (S 240 [out_20, v34] h35) fun r38 => kres r38 (fun v39 h40 =>
     ob (kbinI .add v23 (.int .i64 (.ofNat 1))) fun v43 =>
     (some ⟨0, [out_20, v21, v22, v43], ds18, h40⟩)) (fun p41 h42 => (some ⟨3, [p41], ds18, h42⟩))) (fun p36 h37 => (some ⟨3, [p36], ds18, h37⟩)))) (fun p30 h31 => (some ⟨3, [p30], ds18, h31⟩)))
    ((some ⟨1, [out_20], ds18, h19⟩))) rounds [(.ptr (Heap.next h) 0), l_1, v16, (.int .i64 (.ofNat 0))] [] h13) fun r44 => kcase (J.i r44) [kv1 (J.vs r44) fun out_45 =>
   ob (S 242 [out_45] (J.h r44)) fun r46 => kres r46 (fun v47 h48 =>
   (dleave (fun h51 => (some (false, v47, h51))) (J.ds r44) h48)) (fun p49 h50 => (kds (J.ds r44) (some (true, p49, h50)))),
  kv1 (J.vs r44) fun v52 =>
   (dleave (fun h53 => (some (false, v52, h53))) (J.ds r44) (J.h r44)),
  kv1 (J.vs r44) fun p54 => (kds (J.ds r44) (some (true, p54, (J.h r44))))]) (fun p14 h15 => (some (true, p14, h15)))) (fun p9 h10 => (some (true, p9, h10))))
theorem F379_ok {S : FS} {D : FD} (hS : SpecsOK Tryz.prog S) (hD : DynOK Tryz.prog D) : SpecOK Tryz.prog 379 (F379 S D) :=
  SpecOK.of (c := match Tryz.f379.body with | some c => c | none => .skip) (by kernel_rfl) hS hD ⟨Tryz.func379, rfl, by decide⟩
    (.seq .n (.seq (.seq .n (.dup (.seq .n .n) .n)) (.seq .n (.seq .n (.seq (.seq .n (.one (.loop [3, 13, 14, 15] [(.exit 0, [3]), (.ret, [2]), (.pan, [])] (.seq .n (.seq (.dup .n .n) (.seq (.one (.seq .n (.seq (.seq .n (.dup (.seq .n .n) .n)) .n))) .n)))))) (.seq .n .n)))))) 1 (fun args h => by kernel_rfl)
/-- roundhouse/procs.is$1 -/
noncomputable def F380 (S : FS) (D : FD) (args : List AV) (h : Heap) : Option (Bool × AV × Heap) :=
 kv2 args fun s_1 v2 =>
 ob (kload h v2) fun v3 =>
 ob (kbinI .eql s_1 v3) fun v4 =>
 (some (false, v4, h))
theorem F380_ok {S : FS} {D : FD} (hS : SpecsOK Tryz.prog S) (hD : DynOK Tryz.prog D) : SpecOK Tryz.prog 380 (F380 S D) :=
  SpecOK.of (c := match Tryz.f380.body with | some c => c | none => .skip) (by kernel_rfl) hS hD ⟨Tryz.func380, rfl, by decide⟩
    (.seq .n (.seq .n .n)) 2 (fun args h => by kernel_rfl)
/-- roundhouse/acct.Of -/
noncomputable def F381 (S : FS) (D : FD) (args : List AV) (h : Heap) : Option (Bool × AV × Heap) :=
 kv1 args fun u_1 =>
 knt u_1 (Heap.pushK h (.cells (AV.cells u_1) true 436) fun h2 =>
 ob (kfa 0 (.ptr (Heap.next h) 0)) fun v3 =>
 ob (kload h2 v3) fun v4 =>
 ob (kbinI .lss v4 (.int .i64 (.ofNat 0))) fun v5 =>
 ob (kgv false v5 (kfa 0 (.ptr (Heap.next h) 0))) fun v6 =>
 ob (kgv false v5 (kload h2 v6)) fun v7 =>
 ob (kgv false v5 (kbinI .gtr v7 (.int .i64 (.ofNat 1099511627776)))) fun v8 =>
 ob (kpick v5 (.bool true) v8) fun v9 =>
 ob (kgv false v9 (kfa 1 (.ptr (Heap.next h) 0))) fun v10 =>
 ob (kgv false v9 (kload h2 v10)) fun v11 =>
 ob (kgv false v9 (kbinI .lss v11 (.int .i64 (.ofNat 0)))) fun v12 =>
 ob (kpick v9 (.bool true) v12) fun v13 =>
 ob (kgv false v13 (kfa 2 (.ptr (Heap.next h) 0))) fun v14 =>
 ob (kgv false v13 (kload h2 v14)) fun v15 =>
 ob (kgv false v13 (kbinI .lss v15 (.int .i64 (.ofNat 0)))) fun v16 =>
 ob (kpick v13 (.bool true) v16) fun v17 =>
 ob (kgv false v17 (kfa 2 (.ptr (Heap.next h) 0))) fun v18 =>
 ob (kgv false v17 (kload h2 v18)) fun v19 =>
 ob (kgv false v17 (kfa 3 (.ptr (Heap.next h) 0))) fun v20 =>
 ob (kgv false v17 (kload h2 v20)) fun v21 =>
 ob (kgv false v17 (kbinI .gtr v19 v21)) fun v22 =>
 ob (kpick v17 (.bool true) v22) fun v23 =>
 kif v23
  ((some (false, (.tuple [(.int .i64 (.ofNat 0)), (.int .i64 (.ofNat 1))]), h2)))
  (ob (kfa 1 (.ptr (Heap.next h) 0)) fun v24 =>
  ob (kload h2 v24) fun v25 =>
  ob (kfa 3 (.ptr (Heap.next h) 0)) fun v26 =>
  ob (kload h2 v26) fun v27 =>
  ob (kfa 2 (.ptr (Heap.next h) 0)) fun v28 =>
  ob (kload h2 v28) fun v29 =>
  ob (kbinI .sub v27 v29) fun v30 =>
  ob (S 397 [v25, v30] h2) fun r31 => kres r31 (fun v32 h33 =>
  (some (false, (.tuple [v32, (.int .i64 (.ofNat 0))]), h33))) (fun p34 h35 => (some (true, p34, h35)))))
theorem F381_ok {S : FS} {D : FD} (hS : SpecsOK Tryz.prog S) (hD : DynOK Tryz.prog D) : SpecOK Tryz.prog 381 (F381 S D) :=
  SpecOK.of (c := match Tryz.f381.body with | some c => c | none => .skip) (by kernel_rfl) hS hD ⟨Tryz.func381, rfl, by decide⟩
    (.seq .n (.seq (.seq .n (.dup (.seq .n .n) .n)) (.seq .n .n))) 1 (fun args h => by kernel_rfl)
/-- roundhouse/acct.Add -/
noncomputable def F382 (S : FS) (D : FD) (args : List AV) (h : Heap) : Option (Bool × AV × Heap) :=
 kv2 args fun a_1 b_2 =>
 ob (amaxs true [a_1, (.int .i64 (.ofNat 0))]) fun v3 =>
 ob (amaxs true [b_2, (.int .i64 (.ofNat 0))]) fun v4 =>
 ob (kbinI .add v3 v4) fun v5 =>
 ob (kbinI .geq v5 v3) fun v6 =>
 kif v6
  ((some (false, v5, h)))
  ((some (false, (.int .i64 (.ofNat 9223372036854775807)), h)))
theorem F382_ok {S : FS} {D : FD} (hS : SpecsOK Tryz.prog S) (hD : DynOK Tryz.prog D) : SpecOK Tryz.prog 382 (F382 S D) :=
  SpecOK.of (c := match Tryz.f382.body with | some c => c | none => .skip) (by kernel_rfl) hS hD ⟨Tryz.func382, rfl, by decide⟩
    (.seq .n (.seq .n (.seq (.seq .n (.seq .n (.dup (.seq .n .n) .n))) (.seq .n .n)))) 2 (fun args h => by kernel_rfl)
/-- roundhouse/pool.may -/
noncomputable def F383 (S : FS) (D : FD) (args : List AV) (h : Heap) : Option (Bool × AV × Heap) :=
 kv1 args fun owner_1 =>
 ob (kbinI .geq owner_1 (.int .i64 (.ofNat 0))) fun v2 =>
 ob (kgv true v2 (some owner_1)) fun v3 =>
 ob (kgv true v2 (kbinI .leq v3 (.int .i64 (.ofNat 1099511627776)))) fun v4 =>
 ob (kpick v2 v4 (.bool false)) fun v5 =>
 (some (false, v5, h))
theorem F383_ok {S : FS} {D : FD} (hS : SpecsOK Tryz.prog S) (hD : DynOK Tryz.prog D) : SpecOK Tryz.prog 383 (F383 S D) :=
  SpecOK.of (c := match Tryz.f383.body with | some c => c | none => .skip) (by kernel_rfl) hS hD ⟨Tryz.func383, rfl, by decide⟩
    (.seq .n (.seq .n .n)) 1 (fun args h => by kernel_rfl)
/-- roundhouse/dag.with$1 -/
noncomputable def F384 (S : FS) (D : FD) (args : List AV) (h : Heap) : Option (Bool × AV × Heap) :=
 kv1 args fun c_1 =>
 ob (S 224 [c_1, (.int .i64 (.negSucc 0)), (.int .i64 (.ofNat 256))] h) fun r2 => kres r2 (fun v3 h4 =>
 ob (aun .not v3) fun v7 =>
 (some (false, v7, h4))) (fun p5 h6 => (some (true, p5, h6)))
theorem F384_ok {S : FS} {D : FD} (hS : SpecsOK Tryz.prog S) (hD : DynOK Tryz.prog D) : SpecOK Tryz.prog 384 (F384 S D) :=
  SpecOK.of (c := match Tryz.f384.body with | some c => c | none => .skip) (by kernel_rfl) hS hD ⟨Tryz.func384, rfl, by decide⟩
    (.seq .n (.seq .n .n)) 1 (fun args h => by kernel_rfl)
/-- slices.IndexFunc[[]roundhouse/api.Edge,roundhouse/api.Edge] -/
noncomputable def F385 (S : FS) (D : FD) (args : List AV) (h : Heap) : Option (Bool × AV × Heap) :=
 kv2 args fun s_1 f_2 =>
 ob (klenL s_1) fun v3 =>
 ob (iterD (fun vs4 ds5 h6 => kv4 vs4 fun s_7 f_8 v9 v10 =>
  ob (kbinI .lss v10 v9) fun v11 =>
  kif v11
   (ob (kia 2 s_7 v10) fun v12 =>
   ob (kloadN 2 h6 v12) fun v13 =>
   ob (D f_8 [v13] h6) fun r14 => kres r14 (fun v15 h16 =>
   kif v15
    ((some ⟨2, [v10], ds5, h16⟩))
    (ob (kbinI .add v10 (.int .i64 (.ofNat 1))) fun v19 =>
    (some ⟨0, [s_7, f_8, v9, v19], ds5, h16⟩))) (fun p17 h18 => (some ⟨3, [p17], ds5, h18⟩)))
   ((some ⟨1, [], ds5, h6⟩))) rounds [s_1, f_2, v3, (.int .i64 (.ofNat 0))] [] h) fun r20 => kcase (J.i r20) [kv0 (J.vs r20) ((dleave (fun h21 => (some (false, (.int .i64 (.negSucc 0)), h21))) (J.ds r20) (J.h r20))),
 kv1 (J.vs r20) fun v22 =>
  (dleave (fun h23 => (some (false, v22, h23))) (J.ds r20) (J.h r20)),
 kv1 (J.vs r20) fun p24 => (kds (J.ds r20) (some (true, p24, (J.h r20))))]
theorem F385_ok {S : FS} {D : FD} (hS : SpecsOK Tryz.prog S) (hD : DynOK Tryz.prog D) : SpecOK Tryz.prog 385 (F385 S D) :=
  SpecOK.of (c := match Tryz.f385.body with | some c => c | none => .skip) (by kernel_rfl) hS hD ⟨Tryz.func385, rfl, by decide⟩
    (.seq .n (.seq (.seq .n (.one (.loop [0, 1, 7, 8] [(.exit 0, []), (.ret, [4]), (.pan, [])] (.seq .n (.seq (.dup .n .n) (.seq (.one (.seq .n (.seq .n (.dup (.seq .n .n) .n)))) .n)))))) (.seq .n .n))) 2 (fun args h => by kernel_rfl)
/-- roundhouse/sha.schedule -/
noncomputable def F386 (S : FS) (D : FD) (args : List AV) (h : Heap) : Option (Bool × AV × Heap) :=
 kv1 args fun b_1 =>
 Heap.pushK h (.cells [(.int .u32 (.ofNat 0)), (.int .u32 (.ofNat 0)), (.int .u32 (.ofNat 0)), (.int .u32 (.ofNat 0)), (.int .u32 (.ofNat 0)), (.int .u32 (.ofNat 0)), (.int .u32 (.ofNat 0)), (.int .u32 (.ofNat 0)), (.int .u32 (.ofNat 0)), (.int .u32 (.ofNat 0)), (.int .u32 (.ofNat 0)), (.int .u32 (.ofNat 0)), (.int .u32 (.ofNat 0)), (.int .u32 (.ofNat 0)), (.int .u32 (.ofNat 0)), (.int .u32 (.ofNat 0)), (.int .u32 (.ofNat 0)), (.int .u32 (.ofNat 0)), (.int .u32 (.ofNat 0)), (.int .u32 (.ofNat 0)), (.int .u32 (.ofNat 0)), (.int .u32 (.ofNat 0)), (.int .u32 (.ofNat 0)), (.int .u32 (.ofNat 0)), (.int .u32 (.ofNat 0)), (.int .u32 (.ofNat 0)), (.int .u32 (.ofNat 0)), (.int .u32 (.ofNat 0)), (.int .u32 (.ofNat 0)), (.int .u32 (.ofNat 0)), (.int .u32 (.ofNat 0)), (.int .u32 (.ofNat 0)), (.int .u32 (.ofNat 0)), (.int .u32 (.ofNat 0)), (.int .u32 (.ofNat 0)), (.int .u32 (.ofNat 0)), (.int .u32 (.ofNat 0)), (.int .u32 (.ofNat 0)), (.int .u32 (.ofNat 0)), (.int .u32 (.ofNat 0)), (.int .u32 (.ofNat 0)), (.int .u32 (.ofNat 0)), (.int .u32 (.ofNat 0)), (.int .u32 (.ofNat 0)), (.int .u32 (.ofNat 0)), (.int .u32 (.ofNat 0)), (.int .u32 (.ofNat 0)), (.int .u32 (.ofNat 0)), (.int .u32 (.ofNat 0)), (.int .u32 (.ofNat 0)), (.int .u32 (.ofNat 0)), (.int .u32 (.ofNat 0)), (.int .u32 (.ofNat 0)), (.int .u32 (.ofNat 0)), (.int .u32 (.ofNat 0)), (.int .u32 (.ofNat 0)), (.int .u32 (.ofNat 0)), (.int .u32 (.ofNat 0)), (.int .u32 (.ofNat 0)), (.int .u32 (.ofNat 0)), (.int .u32 (.ofNat 0)), (.int .u32 (.ofNat 0)), (.int .u32 (.ofNat 0)), (.int .u32 (.ofNat 0))] true 483) fun h2 =>
 Heap.pushK h2 (.cells [(.int .u32 (.ofNat 0)), (.int .u32 (.ofNat 0)), (.int .u32 (.ofNat 0)), (.int .u32 (.ofNat 0)), (.int .u32 (.ofNat 0)), (.int .u32 (.ofNat 0)), (.int .u32 (.ofNat 0)), (.int .u32 (.ofNat 0)), (.int .u32 (.ofNat 0)), (.int .u32 (.ofNat 0)), (.int .u32 (.ofNat 0)), (.int .u32 (.ofNat 0)), (.int .u32 (.ofNat 0)), (.int .u32 (.ofNat 0)), (.int .u32 (.ofNat 0)), (.int .u32 (.ofNat 0)), (.int .u32 (.ofNat 0)), (.int .u32 (.ofNat 0)), (.int .u32 (.ofNat 0)), (.int .u32 (.ofNat 0)), (.int .u32 (.ofNat 0)), (.int .u32 (.ofNat 0)), (.int .u32 (.ofNat 0)), (.int .u32 (.ofNat 0)), (.int .u32 (.ofNat 0)), (.int .u32 (.ofNat 0)), (.int .u32 (.ofNat 0)), (.int .u32 (.ofNat 0)), (.int .u32 (.ofNat 0)), (.int .u32 (.ofNat 0)), (.int .u32 (.ofNat 0)), (.int .u32 (.ofNat 0)), (.int .u32 (.ofNat 0)), (.int .u32 (.ofNat 0)), (.int .u32 (.ofNat 0)), (.int .u32 (.ofNat 0)), (.int .u32 (.ofNat 0)), (.int .u32 (.ofNat 0)), (.int .u32 (.ofNat 0)), (.int .u32 (.ofNat 0)), (.int .u32 (.ofNat 0)), (.int .u32 (.ofNat 0)), (.int .u32 (.ofNat 0)), (.int .u32 (.ofNat 0)), (.int .u32 (.ofNat 0)), (.int .u32 (.ofNat 0)), (.int .u32 (.ofNat 0)), (.int .u32 (.ofNat 0)), (.int .u32 (.ofNat 0)), (.int .u32 (.ofNat 0)), (.int .u32 (.ofNat 0)), (.int .u32 (.ofNat 0)), (.int .u32 (.ofNat 0)), (.int .u32 (.ofNat 0)), (.int .u32 (.ofNat 0)), (.int .u32 (.ofNat 0)), (.int .u32 (.ofNat 0)), (.int .u32 (.ofNat 0)), (.int .u32 (.ofNat 0)), (.int .u32 (.ofNat 0)), (.int .u32 (.ofNat 0)), (.int .u32 (.ofNat 0)), (.int .u32 (.ofNat 0)), (.int .u32 (.ofNat 0))] true 483) fun h3 =>
 ob (iterD (fun vs4 ds5 h6 => kv4 vs4 fun b_7 v8 w_9 v10 =>
  ob (kbinI .lss v10 (.int .i64 (.ofNat 16))) fun v11 =>
  kif v11
   (ob (kbinI .mul (.int .i64 (.ofNat 4)) v10) fun v12 =>
   ob (kia 1 b_7 v12) fun v13 =>
   ob (kload h6 v13) fun v14 =>
   ob (kconvI .u32 v14) fun v15 =>
   ob (kbinI .shl v15 (.int .u64 (.ofNat 24))) fun v16 =>
   ob (kbinI .mul (.int .i64 (.ofNat 4)) v10) fun v17 =>
   ob (kbinI .add v17 (.int .i64 (.ofNat 1))) fun v18 =>
   ob (kia 1 b_7 v18) fun v19 =>
   ob (kload h6 v19) fun v20 =>
   ob (kconvI .u32 v20) fun v21 =>
   ob (kbinI .shl v21 (.int .u64 (.ofNat 16))) fun v22 =>
   ob (kbinI .or v16 v22) fun v23 =>
   ob (kbinI .mul (.int .i64 (.ofNat 4)) v10) fun v24 =>
   ob (kbinI .add v24 (.int .i64 (.ofNat 2))) fun v25 =>
   ob (kia 1 b_7 v25) fun v26 =>
   ob (kload h6 v26) fun v27 =>
   ob (kconvI .u32 v27) fun v28 =>
   ob (kbinI .shl v28 (.int .u64 (.ofNat 8))) fun v29 =>
   ob (kbinI .or v23 v29) fun v30 =>
   ob (kbinI .mul (.int .i64 (.ofNat 4)) v10) fun v31 =>
   ob (kbinI .add v31 (.int .i64 (.ofNat 3))) fun v32 =>
   ob (kia 1 b_7 v32) fun v33 =>
   ob (kload h6 v33) fun v34 =>
   ob (kconvI .u32 v34) fun v35 =>
   ob (kbinI .or v30 v35) fun v36 =>
   ob (kiaA 64 1 w_9 v10) fun v37 =>
   ob (kstore 1 v37 v36 h6) fun h38 =>
   ob (kbinI .add v10 (.int .i64 (.ofNat 1))) fun v39 =>
   (some ⟨0, [b_7, v8, w_9, v39], ds5, h38⟩))
   ((some ⟨1, [v8, w_9], ds5, h6⟩))) rounds [b_1, (.ptr (Heap.next h) 0), (.ptr (Heap.next h2) 0), (.int .i64 (.ofNat 0))] [] h3) fun r40 => kcase (J.i r40) [kv2 (J.vs r40) fun v41 w_42 =>
  ob (iterD (fun vs43 ds44 h45 => kv3 vs43 fun v46 w_47 i_48 =>
   ob (kbinI .lss i_48 (.int .i64 (.ofNat 64))) fun v49 =>
   kif v49
    (ob (kbinI .sub i_48 (.int .i64 (.ofNat 15))) fun v50 =>
    ob (kiaA 64 1 w_47 v50) fun v51 =>
    ob (kload h45 v51) fun v52 =>
    ob (kbinI .sub i_48 (.int .i64 (.ofNat 2))) fun v53 =>
    ob (kiaA 64 1 w_47 v53) fun v54 =>
    ob (kload h45 v54) fun v55 =>
    ob (kbinI .sub i_48 (.int .i64 (.ofNat 16))) fun v56 =>
    ob (kiaA 64 1 w_47 v56) fun v57 =>
    ob (kload h45 v57) fun v58 =>
    ob (kbinI .shr v52 (.int .u64 (.ofNat 3))) fun v59 =>
    ob (kbinI .sub i_48 (.int .i64 (.ofNat 7))) fun v60 =>
    ob (kiaA 64 1 w_47 v60) fun v61 =>
    ob (kload h45 v61) fun v62 =>
    ob (kbinI .shr v55 (.int .u64 (.ofNat 10))) fun v63 =>
    ob (S 388 [v52, (.int .u64 (.ofNat 7))] h45) fun r64 => kres r64 (fun v65 h66 =>
    kre (kload h66 v61) v62 (kre (kload h66 v57) v58 (ob (S 388 [v52, (.int .u64 (.ofNat 18))] h66) fun r69 => kres r69 (fun v70 h71 =>
    kre (kload h71 v61) v62 (kre (kload h71 v57) v58 (ob (kbinI .xor v65 v70) fun v74 =>
    ob (kbinI .xor v74 v59) fun v75 =>
    ob (kbinI .add v58 v75) fun v76 =>
    ob (kbinI .add v76 v62) fun v77 =>
    ob (S 388 [v55, (.int .u64 (.ofNat 17))] h71) fun r78 => kres r78 (fun v79 h80 =>
    kre (kload h80 v61) v62 (kre (kload h80 v57) v58 (ob (S 388 [v55, (.int .u64 (.ofNat 19))] h80) fun r83 => kres r83 (fun v84 h85 =>
    kre (kload h85 v61) v62 (kre (kload h85 v57) v58 (ob (kbinI .xor v79 v84) fun v88 =>
    ob (kbinI .xor v88 v63) fun v89 =>
    ob (kbinI .add v77 v89) fun v90 =>
    ob (kiaA 64 1 w_47 i_48) fun v91 =>
    ob (kstore 1 v91 v90 h85) fun h92 =>
    ob (kbinI .add i_48 (.int .i64 (.ofNat 1))) fun v93 =>
    (some ⟨0, [v46, w_47, v93], ds44, h92⟩)))) (fun p86 h87 => none)))) (fun p81 h82 => none)))) (fun p72 h73 => none)))) (fun p67 h68 => none))
    ((some ⟨1, [v46, w_47], ds44, h45⟩))) rounds [v41, w_42, (.int .i64 (.ofNat 16))] (J.ds r40) (J.h r40)) fun r94 => kcase (J.i r94) [kv2 (J.vs r94) fun v95 w_96 =>
   ob (kloadN 64 (J.h r94) w_96) fun v97 =>
   ob (kstore 64 v95 v97 (J.h r94)) fun h98 =>
   (dleave (fun h99 => ob (kloadN 64 h99 v95) fun v100 => (some (false, v100, h99))) (J.ds r94) h98),
  kv1 (J.vs r94) fun p101 => (kds (J.ds r94) (some (true, p101, (J.h r94))))]]
theorem F386_ok {S : FS} {D : FD} (hS : SpecsOK Tryz.prog S) (hD : DynOK Tryz.prog D) : SpecOK Tryz.prog 386 (F386 S D) :=
  SpecOK.of (c := match Tryz.f386.body with | some c => c | none => .skip) (by kernel_rfl) hS hD ⟨Tryz.func386, rfl, by decide⟩
    (.seq .n (.seq .n (.seq (.seq .n (.one (.loop [0, 2, 3, 8] [(.exit 0, [2, 3])] (.seq .n (.seq (.dup .n .n) (.seq (.one (.seq .n .n)) .n)))))) (.seq (.seq .n (.one (.loop [2, 3, 5] [(.exit 2, [2, 3]), (.pan, [])] (.seq (.seq .n (.dup .n .n)) (.seq (.one (.seq .n .n)) .n))))) (.seq .n .n))))) 1 (fun args h => by kernel_rfl)
/-- roundhouse/sha.constants -/
noncomputable def F387 (S : FS) (D : FD) (args : List AV) (h : Heap) : Option (Bool × AV × Heap) :=
 kv0 args (Heap.pushK h (.cells [(.int .u32 (.ofNat 0)), (.int .u32 (.ofNat 0)), (.int .u32 (.ofNat 0)), (.int .u32 (.ofNat 0)), (.int .u32 (.ofNat 0)), (.int .u32 (.ofNat 0)), (.int .u32 (.ofNat 0)), (.int .u32 (.ofNat 0)), (.int .u32 (.ofNat 0)), (.int .u32 (.ofNat 0)), (.int .u32 (.ofNat 0)), (.int .u32 (.ofNat 0)), (.int .u32 (.ofNat 0)), (.int .u32 (.ofNat 0)), (.int .u32 (.ofNat 0)), (.int .u32 (.ofNat 0)), (.int .u32 (.ofNat 0)), (.int .u32 (.ofNat 0)), (.int .u32 (.ofNat 0)), (.int .u32 (.ofNat 0)), (.int .u32 (.ofNat 0)), (.int .u32 (.ofNat 0)), (.int .u32 (.ofNat 0)), (.int .u32 (.ofNat 0)), (.int .u32 (.ofNat 0)), (.int .u32 (.ofNat 0)), (.int .u32 (.ofNat 0)), (.int .u32 (.ofNat 0)), (.int .u32 (.ofNat 0)), (.int .u32 (.ofNat 0)), (.int .u32 (.ofNat 0)), (.int .u32 (.ofNat 0)), (.int .u32 (.ofNat 0)), (.int .u32 (.ofNat 0)), (.int .u32 (.ofNat 0)), (.int .u32 (.ofNat 0)), (.int .u32 (.ofNat 0)), (.int .u32 (.ofNat 0)), (.int .u32 (.ofNat 0)), (.int .u32 (.ofNat 0)), (.int .u32 (.ofNat 0)), (.int .u32 (.ofNat 0)), (.int .u32 (.ofNat 0)), (.int .u32 (.ofNat 0)), (.int .u32 (.ofNat 0)), (.int .u32 (.ofNat 0)), (.int .u32 (.ofNat 0)), (.int .u32 (.ofNat 0)), (.int .u32 (.ofNat 0)), (.int .u32 (.ofNat 0)), (.int .u32 (.ofNat 0)), (.int .u32 (.ofNat 0)), (.int .u32 (.ofNat 0)), (.int .u32 (.ofNat 0)), (.int .u32 (.ofNat 0)), (.int .u32 (.ofNat 0)), (.int .u32 (.ofNat 0)), (.int .u32 (.ofNat 0)), (.int .u32 (.ofNat 0)), (.int .u32 (.ofNat 0)), (.int .u32 (.ofNat 0)), (.int .u32 (.ofNat 0)), (.int .u32 (.ofNat 0)), (.int .u32 (.ofNat 0))] true 483) fun h1 =>
 ob (abuild Tryz.prog 483 [(0, (.int .u32 (.ofNat 1116352408))), (1, (.int .u32 (.ofNat 1899447441))), (2, (.int .u32 (.ofNat 3049323471))), (3, (.int .u32 (.ofNat 3921009573))), (4, (.int .u32 (.ofNat 961987163))), (5, (.int .u32 (.ofNat 1508970993))), (6, (.int .u32 (.ofNat 2453635748))), (7, (.int .u32 (.ofNat 2870763221))), (8, (.int .u32 (.ofNat 3624381080))), (9, (.int .u32 (.ofNat 310598401))), (10, (.int .u32 (.ofNat 607225278))), (11, (.int .u32 (.ofNat 1426881987))), (12, (.int .u32 (.ofNat 1925078388))), (13, (.int .u32 (.ofNat 2162078206))), (14, (.int .u32 (.ofNat 2614888103))), (15, (.int .u32 (.ofNat 3248222580))), (16, (.int .u32 (.ofNat 3835390401))), (17, (.int .u32 (.ofNat 4022224774))), (18, (.int .u32 (.ofNat 264347078))), (19, (.int .u32 (.ofNat 604807628))), (20, (.int .u32 (.ofNat 770255983))), (21, (.int .u32 (.ofNat 1249150122))), (22, (.int .u32 (.ofNat 1555081692))), (23, (.int .u32 (.ofNat 1996064986))), (24, (.int .u32 (.ofNat 2554220882))), (25, (.int .u32 (.ofNat 2821834349))), (26, (.int .u32 (.ofNat 2952996808))), (27, (.int .u32 (.ofNat 3210313671))), (28, (.int .u32 (.ofNat 3336571891))), (29, (.int .u32 (.ofNat 3584528711))), (30, (.int .u32 (.ofNat 113926993))), (31, (.int .u32 (.ofNat 338241895))), (32, (.int .u32 (.ofNat 666307205))), (33, (.int .u32 (.ofNat 773529912))), (34, (.int .u32 (.ofNat 1294757372))), (35, (.int .u32 (.ofNat 1396182291))), (36, (.int .u32 (.ofNat 1695183700))), (37, (.int .u32 (.ofNat 1986661051))), (38, (.int .u32 (.ofNat 2177026350))), (39, (.int .u32 (.ofNat 2456956037))), (40, (.int .u32 (.ofNat 2730485921))), (41, (.int .u32 (.ofNat 2820302411))), (42, (.int .u32 (.ofNat 3259730800))), (43, (.int .u32 (.ofNat 3345764771))), (44, (.int .u32 (.ofNat 3516065817))), (45, (.int .u32 (.ofNat 3600352804))), (46, (.int .u32 (.ofNat 4094571909))), (47, (.int .u32 (.ofNat 275423344))), (48, (.int .u32 (.ofNat 430227734))), (49, (.int .u32 (.ofNat 506948616))), (50, (.int .u32 (.ofNat 659060556))), (51, (.int .u32 (.ofNat 883997877))), (52, (.int .u32 (.ofNat 958139571))), (53, (.int .u32 (.ofNat 1322822218))), (54, (.int .u32 (.ofNat 1537002063))), (55, (.int .u32 (.ofNat 1747873779))), (56, (.int .u32 (.ofNat 1955562222))), (57, (.int .u32 (.ofNat 2024104815))), (58, (.int .u32 (.ofNat 2227730452))), (59, (.int .u32 (.ofNat 2361852424))), (60, (.int .u32 (.ofNat 2428436474))), (61, (.int .u32 (.ofNat 2756734187))), (62, (.int .u32 (.ofNat 3204031479))), (63, (.int .u32 (.ofNat 3329325298)))]) fun v2 =>
 ob (kstore 64 (.ptr (Heap.next h) 0) v2 h1) fun h3 =>
 ob (kloadN 64 h3 (.ptr (Heap.next h) 0)) fun v4 => (some (false, v4, h3)))
theorem F387_ok {S : FS} {D : FD} (hS : SpecsOK Tryz.prog S) (hD : DynOK Tryz.prog D) : SpecOK Tryz.prog 387 (F387 S D) :=
  SpecOK.of (c := match Tryz.f387.body with | some c => c | none => .skip) (by kernel_rfl) hS hD ⟨Tryz.func387, rfl, by decide⟩
    (.seq .n (.seq .n .n)) 0 (fun args h => by kernel_rfl)
/-- roundhouse/sha.rot -/
noncomputable def F388 (S : FS) (D : FD) (args : List AV) (h : Heap) : Option (Bool × AV × Heap) :=
 kv2 args fun x_1 n_2 =>
 ob (kbinI .shr x_1 n_2) fun v3 =>
 ob (kbinI .sub (.int .u64 (.ofNat 32)) n_2) fun v4 =>
 ob (kbinI .shl x_1 v4) fun v5 =>
 ob (kbinI .or v3 v5) fun v6 =>
 (some (false, v6, h))
theorem F388_ok {S : FS} {D : FD} (hS : SpecsOK Tryz.prog S) (hD : DynOK Tryz.prog D) : SpecOK Tryz.prog 388 (F388 S D) :=
  SpecOK.of (c := match Tryz.f388.body with | some c => c | none => .skip) (by kernel_rfl) hS hD ⟨Tryz.func388, rfl, by decide⟩
    (.seq .n (.seq .n .n)) 2 (fun args h => by kernel_rfl)
/-- roundhouse/cred.Encode -/
noncomputable def F389 (S : FS) (D : FD) (args : List AV) (h : Heap) : Option (Bool × AV × Heap) :=
 kv1 args fun c_1 =>
 knt c_1 (Heap.pushK h (.cells (AV.cells c_1) true 413) fun h2 =>
 ob (kloadN 7 h2 (.ptr (Heap.next h) 0)) fun v3 =>
 ob (S 365 [v3] h2) fun r4 => kres r4 (fun v5 h6 =>
 ob (kbinI .neq v5 (.int .i64 (.ofNat 0))) fun v9 =>
 kif v9
  ((some (false, (.str 0 0), h6)))
  (ob (kfa 0 (.ptr (Heap.next h) 0)) fun v10 =>
  ob (kload h6 v10) fun v11 =>
  ob (kfa 1 (.ptr (Heap.next h) 0)) fun v12 =>
  ob (kload h6 v12) fun v13 =>
  ob (kfa 2 (.ptr (Heap.next h) 0)) fun v14 =>
  ob (kload h6 v14) fun v15 =>
  ob (kfa 3 (.ptr (Heap.next h) 0)) fun v16 =>
  ob (kload h6 v16) fun v17 =>
  ob (kfa 4 (.ptr (Heap.next h) 0)) fun v18 =>
  ob (kload h6 v18) fun v19 =>
  ob (kfa 6 (.ptr (Heap.next h) 0)) fun v20 =>
  ob (kload h6 v20) fun v21 =>
  ob (abuild Tryz.prog 499 [(0, v11), (1, v13), (2, v15), (3, v17), (4, v19), (5, v21)]) fun v22 =>
  ob (iterD (fun vs23 ds24 h25 => kv4 vs23 fun c_26 s_27 v28 v29 =>
   ob (kbinI .lss v29 (.int .i64 (.ofNat 6))) fun v30 =>
   kif v30
    (ob (kixA 6 false 1 v28 v29) fun v31 =>
    ob (S 241 [v31] h25) fun r32 => kres r32 (fun v33 h34 =>
    ob (kbinS .add s_27 v33) fun v37 =>
    ob (kbinI .add v29 (.int .i64 (.ofNat 1))) fun v38 =>
    (some ⟨0, [c_26, v37, v28, v38], ds24, h34⟩)) (fun p35 h36 => (some ⟨2, [p35], ds24, h36⟩)))
    ((some ⟨1, [c_26, s_27], ds24, h25⟩))) rounds [(.ptr (Heap.next h) 0), (.str 0 0), v22, (.int .i64 (.ofNat 0))] [] h6) fun r39 => kcase (J.i r39) [kv2 (J.vs r39) fun c_40 s_41 =>
   ob (kfa 5 c_40) fun v42 =>
   ob (kload (J.h r39) v42) fun v43 =>
   ob (S 379 [v43] (J.h r39)) fun r44 => kres r44 (fun v45 h46 =>
   ob (kbinS .add s_41 v45) fun v49 =>
   (dleave (fun h50 => (some (false, v49, h50))) (J.ds r39) h46)) (fun p47 h48 => (kds (J.ds r39) (some (true, p47, h48)))),
  kv1 (J.vs r39) fun p51 => (kds (J.ds r39) (some (true, p51, (J.h r39))))])) (fun p7 h8 => (some (true, p7, h8))))
theorem F389_ok {S : FS} {D : FD} (hS : SpecsOK Tryz.prog S) (hD : DynOK Tryz.prog D) : SpecOK Tryz.prog 389 (F389 S D) :=
  SpecOK.of (c := match Tryz.f389.body with | some c => c | none => .skip) (by kernel_rfl) hS hD ⟨Tryz.func389, rfl, by decide⟩
    (.seq .n (.seq (.seq .n (.dup (.seq .n .n) .n)) (.seq .n (.seq (.seq .n (.one (.loop [1, 3, 21, 22] [(.exit 0, [1, 3]), (.pan, [])] (.seq .n (.seq (.dup .n .n) (.seq (.one (.seq .n .n)) .n)))))) (.seq .n .n))))) 1 (fun args h => by kernel_rfl)
/-- roundhouse/sha.padded -/
noncomputable def F390 (S : FS) (D : FD) (args : List AV) (h : Heap) : Option (Bool × AV × Heap) :=
 kv2 args fun key_1 by_2 =>
 Heap.pushK h (.cells [(.int .u8 (.ofNat 0)), (.int .u8 (.ofNat 0)), (.int .u8 (.ofNat 0)), (.int .u8 (.ofNat 0)), (.int .u8 (.ofNat 0)), (.int .u8 (.ofNat 0)), (.int .u8 (.ofNat 0)), (.int .u8 (.ofNat 0)), (.int .u8 (.ofNat 0)), (.int .u8 (.ofNat 0)), (.int .u8 (.ofNat 0)), (.int .u8 (.ofNat 0)), (.int .u8 (.ofNat 0)), (.int .u8 (.ofNat 0)), (.int .u8 (.ofNat 0)), (.int .u8 (.ofNat 0)), (.int .u8 (.ofNat 0)), (.int .u8 (.ofNat 0)), (.int .u8 (.ofNat 0)), (.int .u8 (.ofNat 0)), (.int .u8 (.ofNat 0)), (.int .u8 (.ofNat 0)), (.int .u8 (.ofNat 0)), (.int .u8 (.ofNat 0)), (.int .u8 (.ofNat 0)), (.int .u8 (.ofNat 0)), (.int .u8 (.ofNat 0)), (.int .u8 (.ofNat 0)), (.int .u8 (.ofNat 0)), (.int .u8 (.ofNat 0)), (.int .u8 (.ofNat 0)), (.int .u8 (.ofNat 0)), (.int .u8 (.ofNat 0)), (.int .u8 (.ofNat 0)), (.int .u8 (.ofNat 0)), (.int .u8 (.ofNat 0)), (.int .u8 (.ofNat 0)), (.int .u8 (.ofNat 0)), (.int .u8 (.ofNat 0)), (.int .u8 (.ofNat 0)), (.int .u8 (.ofNat 0)), (.int .u8 (.ofNat 0)), (.int .u8 (.ofNat 0)), (.int .u8 (.ofNat 0)), (.int .u8 (.ofNat 0)), (.int .u8 (.ofNat 0)), (.int .u8 (.ofNat 0)), (.int .u8 (.ofNat 0)), (.int .u8 (.ofNat 0)), (.int .u8 (.ofNat 0)), (.int .u8 (.ofNat 0)), (.int .u8 (.ofNat 0)), (.int .u8 (.ofNat 0)), (.int .u8 (.ofNat 0)), (.int .u8 (.ofNat 0)), (.int .u8 (.ofNat 0)), (.int .u8 (.ofNat 0)), (.int .u8 (.ofNat 0)), (.int .u8 (.ofNat 0)), (.int .u8 (.ofNat 0)), (.int .u8 (.ofNat 0)), (.int .u8 (.ofNat 0)), (.int .u8 (.ofNat 0)), (.int .u8 (.ofNat 0))] true 500) fun h3 =>
 ob (asliceA Tryz.prog h3 500 (.ptr (Heap.next h) 0) none none none) fun v4 =>
 ob (acopy Tryz.prog h3 345 v4 key_1) fun r5 =>
 ob (iterD (fun vs6 ds7 h8 => kv3 vs6 fun by_9 b_10 v11 =>
  ob (kbinI .lss v11 (.int .i64 (.ofNat 64))) fun v12 =>
  kif v12
   (ob (kiaA 64 1 b_10 v11) fun v13 =>
   ob (kload h8 v13) fun v14 =>
   ob (kbinI .xor v14 by_9) fun v15 =>
   ob (kiaA 64 1 b_10 v11) fun v16 =>
   ob (kstore 1 v16 v15 h8) fun h17 =>
   ob (kbinI .add v11 (.int .i64 (.ofNat 1))) fun v18 =>
   (some ⟨0, [by_9, b_10, v18], ds7, h17⟩))
   ((some ⟨1, [b_10], ds7, h8⟩))) rounds [by_2, (.ptr (Heap.next h) 0), (.int .i64 (.ofNat 0))] [] r5.2) fun r19 => kcase (J.i r19) [kv1 (J.vs r19) fun b_20 =>
  ob (asliceA Tryz.prog (J.h r19) 500 b_20 none none none) fun v21 =>
  ob (kbytes (J.h r19) v21) fun v22 =>
  (dleave (fun h23 => (some (false, v22, h23))) (J.ds r19) (J.h r19))]
theorem F390_ok {S : FS} {D : FD} (hS : SpecsOK Tryz.prog S) (hD : DynOK Tryz.prog D) : SpecOK Tryz.prog 390 (F390 S D) :=
  SpecOK.of (c := match Tryz.f390.body with | some c => c | none => .skip) (by kernel_rfl) hS hD ⟨Tryz.func390, rfl, by decide⟩
    (.seq .n (.seq .n (.seq .n (.seq (.seq .n (.one (.loop [1, 5, 10] [(.exit 0, [5])] (.seq .n (.seq (.dup .n .n) (.seq (.one (.seq .n .n)) .n)))))) (.seq .n .n))))) 2 (fun args h => by kernel_rfl)
/-- roundhouse/cred.Check$1 -/
noncomputable def F391 (S : FS) (D : FD) (args : List AV) (h : Heap) : Option (Bool × AV × Heap) :=
 kv1 args fun n_1 =>
 ob (S 368 [n_1, (.int .i64 (.ofNat 0)), (.int .i64 (.ofNat 1099511627776))] h) fun r2 => kres r2 (fun v3 h4 =>
 (some (false, v3, h4))) (fun p5 h6 => (some (true, p5, h6)))
theorem F391_ok {S : FS} {D : FD} (hS : SpecsOK Tryz.prog S) (hD : DynOK Tryz.prog D) : SpecOK Tryz.prog 391 (F391 S D) :=
  SpecOK.of (c := match Tryz.f391.body with | some c => c | none => .skip) (by kernel_rfl) hS hD ⟨Tryz.func391, rfl, by decide⟩
    (.seq .n (.seq .n .n)) 1 (fun args h => by kernel_rfl)
/-- roundhouse/cred.nodes -/
noncomputable def F392 (S : FS) (D : FD) (args : List AV) (h : Heap) : Option (Bool × AV × Heap) :=
 kv1 args fun l_1 =>
 ob (klenL l_1) fun v2 =>
 ob (iterD (fun vs3 ds4 h5 => kv5 vs3 fun l_6 last_7 v8 v9 v10 =>
  ob (kbinI .lss v10 v9) fun v11 =>
  kif v11
   (ob (kia 1 v8 v10) fun v12 =>
   ob (kload h5 v12) fun v13 =>
   ob (kbinI .leq v13 last_7) fun v14 =>
   ob (kgv false v14 (some v13)) fun v15 =>
   ob (kgv false v14 (kbinI .geq v15 (.int .i64 (.ofNat 16)))) fun v16 =>
   ob (kpick v14 (.bool true) v16) fun v17 =>
   kif v17
    ((some ⟨2, [(.bool false)], ds4, h5⟩))
    (ob (kbinI .add v10 (.int .i64 (.ofNat 1))) fun v18 =>
    (some ⟨0, [l_6, v13, v8, v9, v18], ds4, h5⟩)))
   ((some ⟨1, [l_6], ds4, h5⟩))) rounds [l_1, (.int .i64 (.negSucc 0)), l_1, v2, (.int .i64 (.ofNat 0))] [] h) fun r19 => kcase (J.i r19) [kv1 (J.vs r19) fun l_20 =>
  ob (klenL l_20) fun v21 =>
  ob (kbinI .gtr v21 (.int .i64 (.ofNat 0))) fun v22 =>
  (dleave (fun h23 => (some (false, v22, h23))) (J.ds r19) (J.h r19)),
 kv1 (J.vs r19) fun v24 =>
  (dleave (fun h25 => (some (false, v24, h25))) (J.ds r19) (J.h r19))]
theorem F392_ok {S : FS} {D : FD} (hS : SpecsOK Tryz.prog S) (hD : DynOK Tryz.prog D) : SpecOK Tryz.prog 392 (F392 S D) :=
  SpecOK.of (c := match Tryz.f392.body with | some c => c | none => .skip) (by kernel_rfl) hS hD ⟨Tryz.func392, rfl, by decide⟩
    (.seq .n (.seq .n (.seq (.seq .n (.one (.loop [0, 3, 6, 7, 8] [(.exit 0, [0]), (.ret, [2])] (.seq .n (.seq (.dup .n .n) (.seq (.one (.seq .n (.seq (.seq .n (.dup (.seq .n .n) .n)) .n))) .n)))))) (.seq .n .n)))) 1 (fun args h => by kernel_rfl)
/-- roundhouse/cores.of -/
noncomputable def F393 (S : FS) (D : FD) (args : List AV) (h : Heap) : Option (Bool × AV × Heap) :=
 kv1 args fun dist_1 =>
 Heap.pushK h (.cells [AV.nilfunc] true 495) fun h2 =>
 ob (kbinI .eql dist_1 (.int .i64 (.ofNat 0))) fun v3 =>
 kif v3
  (ob (abuild Tryz.prog 495 [(0, (.func 398 []))]) fun v4 =>
  ob (kstore 1 (.ptr (Heap.next h) 0) v4 h2) fun h5 =>
  ob (kloadN 1 h5 (.ptr (Heap.next h) 0)) fun v6 => (some (false, (.tuple [v6, (.bool true)]), h5)))
  (ob (kbinI .eql dist_1 (.int .i64 (.ofNat 1))) fun v7 =>
  kif v7
   (ob (abuild Tryz.prog 495 [(0, (.func 399 []))]) fun v8 =>
   ob (kstore 1 (.ptr (Heap.next h) 0) v8 h2) fun h9 =>
   ob (kloadN 1 h9 (.ptr (Heap.next h) 0)) fun v10 => (some (false, (.tuple [v10, (.bool true)]), h9)))
   (ob (abuild Tryz.prog 495 []) fun v11 =>
   ob (kstore 1 (.ptr (Heap.next h) 0) v11 h2) fun h12 =>
   ob (kloadN 1 h12 (.ptr (Heap.next h) 0)) fun v13 => (some (false, (.tuple [v13, (.bool false)]), h12))))
theorem F393_ok {S : FS} {D : FD} (hS : SpecsOK Tryz.prog S) (hD : DynOK Tryz.prog D) : SpecOK Tryz.prog 393 (F393 S D) :=
  SpecOK.of (c := match Tryz.f393.body with | some c => c | none => .skip) (by kernel_rfl) hS hD ⟨Tryz.func393, rfl, by decide⟩
    (.seq .n (.seq (.seq .n (.one (.seq .n (.dup (.seq .n .n) (.seq .n (.dup (.seq .n .n) .n)))))) (.seq .n .n))) 1 (fun args h => by kernel_rfl)
/-- roundhouse/procs.may -/
noncomputable def F394 (S : FS) (D : FD) (args : List AV) (h : Heap) : Option (Bool × AV × Heap) :=
 kv1 args fun x_1 =>
 knt x_1 (Heap.pushK h (.cells (AV.cells x_1) true 39) fun h2 =>
 ob (kfa 5 (.ptr (Heap.next h) 0)) fun v3 =>
 ob (kload h2 v3) fun v4 =>
 ob (S 261 [v4] h2) fun r5 => kres r5 (fun v6 h7 =>
 ob (aextract v6 0) fun v10 =>
 ob (aextract v6 1) fun v11 =>
 Heap.pushK h7 (.cells [(.int .u64 (.ofNat 0)), (.int .u64 (.ofNat 0)), (.int .u64 (.ofNat 0)), (.int .u64 (.ofNat 0))] true 98) fun h12 =>
 ob (kstore 4 (.ptr (Heap.next h7) 0) v10 h12) fun h13 =>
 ob (kfa 1 (.ptr (Heap.next h) 0)) fun v14 =>
 ob (kload h13 v14) fun v15 =>
 ob (S 400 [v15] h13) fun r16 => kres r16 (fun v17 h18 =>
 ob (kgv true v17 (kfa 2 (.ptr (Heap.next h) 0))) fun v21 =>
 ob (kgv true v17 (kload h18 v21)) fun v22 =>
 ob (kgc true v17 h18 (S 400 [v22] h18)) fun r23 => kres r23 (fun v24 h25 =>
 ob (kpick v17 v24 (.bool false)) fun v28 =>
 ob (kgv true v28 (kfa 3 (.ptr (Heap.next h) 0))) fun v29 =>
 ob (kgv true v28 (kload h25 v29)) fun v30 =>
 ob (kgc true v28 h25 (S 400 [v30] h25)) fun r31 => kres r31 (fun v32 h33 =>
 ob (kpick v28 v32 (.bool false)) fun v36 =>
 ob (kgv true v36 (kfa 4 (.ptr (Heap.next h) 0))) fun v37 =>
 ob (kgv true v36 (kload h33 v37)) fun v38 =>
 ob (kgc true v36 h33 (S 400 [v38] h33)) fun r39 => kres r39 (fun v40 h41 =>
 ob (kpick v36 v40 (.bool false)) fun v44 =>
 ob (kgv true v44 (some v11)) fun v45 =>
 ob (kgv true v44 (kbinI .eql v45 (.int .i64 (.ofNat 0)))) fun v46 =>
 ob (kpick v44 v46 (.bool false)) fun v47 =>
 ob (kgv true v47 (kfa 5 (.ptr (Heap.next h) 0))) fun v48 =>
 ob (kgv true v47 (kload h41 v48)) fun v49 =>
 ob (kgv true v47 (klenL v49)) fun v50 =>
 ob (kgv true v47 (kbinI .gtr v50 (.int .i64 (.ofNat 0)))) fun v51 =>
 ob (kpick v47 v51 (.bool false)) fun v52 =>
 (some (false, v52, h41))) (fun p42 h43 => (some (true, p42, h43)))) (fun p34 h35 => (some (true, p34, h35)))) (fun p26 h27 => (some (true, p26, h27)))) (fun p19 h20 => (some (true, p19, h20)))) (fun p8 h9 => (some (true, p8, h9))))
theorem F394_ok {S : FS} {D : FD} (hS : SpecsOK Tryz.prog S) (hD : DynOK Tryz.prog D) : SpecOK Tryz.prog 394 (F394 S D) :=
  SpecOK.of (c := match Tryz.f394.body with | some c => c | none => .skip) (by kernel_rfl) hS hD ⟨Tryz.func394, rfl, by decide⟩
    (.seq .n (.seq .n (.seq .n .n))) 1 (fun args h => by kernel_rfl)
end Go.Rh.Tryz
