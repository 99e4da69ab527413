/- Printed by wip/tools/gen.py: functions of the program as plain functions over abstract values, each with its proof. -/
import Derived.Test.YthcebbcfaokcdaaGreatProg
import Derived.Test.YthcebbcfaokcdaaGreatRh3
set_option maxRecDepth 1000000
set_option linter.unusedVariables false
namespace Go.Rh.Tryz
open Go.Proofs
/-- roundhouse/journal.Tear -/
noncomputable def F231 (S : FS) (D : FD) (args : List AV) (h : Heap) : Option (Bool × AV × Heap) :=
 kv4 args fun log_1 kind_2 s_3 k_4 =>
 ob (S 184 [kind_2, s_3] h) fun r5 => kres r5 (fun v6 h7 =>
 ob (amaxs true [k_4, (.int .i64 (.ofNat 0))]) fun v10 =>
 ob (klenS v6) fun v11 =>
 ob (amaxs false [v10, v11]) fun v12 =>
 ob (aslice Tryz.prog 9 v6 none (some v12) none) fun v13 =>
 ob (kbinS .add log_1 v13) fun v14 =>
 (some (false, v14, h7))) (fun p8 h9 => (some (true, p8, h9)))
theorem F231_ok {S : FS} {D : FD} (hS : SpecsOK Tryz.prog S) (hD : DynOK Tryz.prog D) : SpecOK Tryz.prog 231 (F231 S D) :=
  SpecOK.of (c := match Tryz.f231.body with | some c => c | none => .skip) (by kernel_rfl) hS hD ⟨Tryz.func231, rfl, by decide⟩
    (.seq .n (.seq .n (.seq .n .n))) 4 (fun args h => by kernel_rfl)
/-- roundhouse/journal.Append -/
noncomputable def F232 (S : FS) (D : FD) (args : List AV) (h : Heap) : Option (Bool × AV × Heap) :=
 kv3 args fun log_1 kind_2 s_3 =>
 ob (S 183 [kind_2] h) fun r4 => kres r4 (fun v5 h6 =>
 ob (aun .not v5) fun v9 =>
 kif v9
  ((some (false, (.tuple [log_1, (.int .i64 (.ofNat 1))]), h6)))
  (ob (klenS s_3) fun v10 =>
  ob (kbinI .gtr v10 (.int .i64 (.ofNat 4096))) fun v11 =>
  kif v11
   ((some (false, (.tuple [log_1, (.int .i64 (.ofNat 3))]), h6)))
   (ob (S 184 [kind_2, s_3] h6) fun r12 => kres r12 (fun v13 h14 =>
   ob (kbinS .add log_1 v13) fun v17 =>
   (some (false, (.tuple [v17, (.int .i64 (.ofNat 0))]), h14))) (fun p15 h16 => (some (true, p15, h16)))))) (fun p7 h8 => (some (true, p7, h8)))
theorem F232_ok {S : FS} {D : FD} (hS : SpecsOK Tryz.prog S) (hD : DynOK Tryz.prog D) : SpecOK Tryz.prog 232 (F232 S D) :=
  SpecOK.of (c := match Tryz.f232.body with | some c => c | none => .skip) (by kernel_rfl) hS hD ⟨Tryz.func232, rfl, by decide⟩
    (.seq .n (.seq (.one (.seq .n (.dup (.seq .n .n) (.seq .n (.dup (.seq .n .n) .n))))) (.seq .n .n))) 3 (fun args h => by kernel_rfl)
/-- (*roundhouse/pool.Pool).Commit -/
noncomputable def F233 (S : FS) (D : FD) (args : List AV) (h : Heap) : Option (Bool × AV × Heap) :=
 kv2 args fun p_1 owner_2 =>
 ob (kbinO Tryz.prog .eql 77 true p_1 AV.nilptr) fun v3 =>
 kif v3
  ((some (false, (.int .i64 (.ofNat 1)), h)))
  (ob (knil p_1) fun v4 =>
  ob (kfa 2 v4) fun v5 =>
  ob (kload h v5) fun v6 =>
  ob (alookup Tryz.prog h 231 v6 owner_2 true) fun v7 =>
  ob (aextract v7 0) fun v8 =>
  ob (aextract v7 1) fun v9 =>
  Heap.pushK h (.cells [(.int .u64 (.ofNat 0)), (.int .u64 (.ofNat 0)), (.int .u64 (.ofNat 0)), (.int .u64 (.ofNat 0)), (.bool false)] true 374) fun h10 =>
  ob (kstore 5 (.ptr (Heap.next h) 0) v8 h10) fun h11 =>
  ob (aun .not v9) fun v12 =>
  ob (kgv false v12 (kfa 4 (.ptr (Heap.next h) 0))) fun v13 =>
  ob (kgv false v12 (kload h11 v13)) fun v14 =>
  ob (kpick v12 (.bool true) v14) fun v15 =>
  kif v15
   ((some (false, (.int .i64 (.ofNat 14)), h11)))
   (ob (kfa 4 (.ptr (Heap.next h) 0)) fun v16 =>
   ob (kstore 1 v16 (.bool true) h11) fun h17 =>
   ob (knil p_1) fun v18 =>
   ob (kfa 2 v18) fun v19 =>
   ob (kload h17 v19) fun v20 =>
   ob (kloadN 5 h17 (.ptr (Heap.next h) 0)) fun v21 =>
   ob (amapSet Tryz.prog h17 231 v20 owner_2 v21) fun h22 =>
   (some (false, (.int .i64 (.ofNat 0)), h22))))
theorem F233_ok {S : FS} {D : FD} (hS : SpecsOK Tryz.prog S) (hD : DynOK Tryz.prog D) : SpecOK Tryz.prog 233 (F233 S D) :=
  SpecOK.of (c := match Tryz.f233.body with | some c => c | none => .skip) (by kernel_rfl) hS hD ⟨Tryz.func233, rfl, by decide⟩
    (.seq .n (.seq (.seq .n (.dup (.seq .n .n) .n)) (.seq .n (.seq (.seq .n (.dup (.seq .n .n) .n)) (.seq .n (.seq .n (.seq .n .n))))))) 2 (fun args h => by kernel_rfl)
/-- roundhouse/procs.is -/
noncomputable def F234 (S : FS) (D : FD) (args : List AV) (h : Heap) : Option (Bool × AV × Heap) :=
 kv1 args fun state_1 =>
 knt state_1 (Heap.pushK h (.cells (AV.cells state_1) true 3) fun h2 =>
 (some (false, (.func 302 [(.ptr (Heap.next h) 0)]), h2)))
theorem F234_ok {S : FS} {D : FD} (hS : SpecsOK Tryz.prog S) (hD : DynOK Tryz.prog D) : SpecOK Tryz.prog 234 (F234 S D) :=
  SpecOK.of (c := match Tryz.f234.body with | some c => c | none => .skip) (by kernel_rfl) hS hD ⟨Tryz.func234, rfl, by decide⟩
    (.seq .n (.seq .n .n)) 1 (fun args h => by kernel_rfl)
/-- (*roundhouse/agent.Agent).tasks$1 -/
noncomputable def F235 (S : FS) (D : FD) (args : List AV) (h : Heap) : Option (Bool × AV × Heap) :=
 kv2 args fun x_1 v2 =>
 knt x_1 (Heap.pushK h (.cells (AV.cells x_1) true 92) fun h3 =>
 ob (kload h3 v2) fun v4 =>
 ob (kfa 0 (.ptr (Heap.next h) 0)) fun v5 =>
 ob (kload h3 v5) fun v6 =>
 ob (S 153 [v4, v6] h3) fun r7 => kres r7 (fun v8 h9 =>
 ob (aun .not v8) fun v12 =>
 (some (false, v12, h9))) (fun p10 h11 => (some (true, p10, h11))))
theorem F235_ok {S : FS} {D : FD} (hS : SpecsOK Tryz.prog S) (hD : DynOK Tryz.prog D) : SpecOK Tryz.prog 235 (F235 S D) :=
  SpecOK.of (c := match Tryz.f235.body with | some c => c | none => .skip) (by kernel_rfl) hS hD ⟨Tryz.func235, rfl, by decide⟩
    (.seq .n (.seq .n .n)) 2 (fun args h => by kernel_rfl)
/-- (*roundhouse/acct.Book).Note -/
noncomputable def F236 (S : FS) (D : FD) (args : List AV) (h : Heap) : Option (Bool × AV × Heap) :=
 kv2 args fun b_1 u_2 =>
 knt u_2 (Heap.pushK h (.cells (AV.cells u_2) true 359) fun h3 =>
 ob (kbinO Tryz.prog .eql 67 true b_1 AV.nilptr) fun v4 =>
 kif v4
  ((some (false, (.int .i64 (.ofNat 1)), h3)))
  (ob (kloadN 4 h3 (.ptr (Heap.next h) 0)) fun v5 =>
  ob (S 303 [v5] h3) fun r6 => kres r6 (fun v7 h8 =>
  ob (aextract v7 0) fun v11 =>
  ob (aextract v7 1) fun v12 =>
  ob (kbinI .eql v12 (.int .i64 (.ofNat 0))) fun v13 =>
  ob (kif v13
   (ob (knil b_1) fun v15 =>
   ob (kfa 0 v15) fun v16 =>
   ob (kload h8 v16) fun v17 =>
   ob (kfa 0 (.ptr (Heap.next h) 0)) fun v18 =>
   ob (kload h8 v18) fun v19 =>
   ob (knil b_1) fun v20 =>
   ob (kfa 0 v20) fun v21 =>
   ob (kload h8 v21) fun v22 =>
   ob (kfa 0 (.ptr (Heap.next h) 0)) fun v23 =>
   ob (kload h8 v23) fun v24 =>
   ob (alookup Tryz.prog h8 79 v22 v24 false) fun v25 =>
   ob (S 304 [v25, v11] h8) fun r26 => kres r26 (fun v27 h28 =>
   kre (kload h28 v18) v19 (kre (kload h28 v16) v17 (ob (amapSet Tryz.prog h28 79 v17 v19 v27) fun h31 =>
   (some ⟨0, [v12], [], h31⟩)))) (fun p29 h30 => none))
   ((some ⟨0, [v12], [], h8⟩))) fun r14 => kcase (J.i r14) [kv1 (J.vs r14) fun e_32 =>
   (dleave (fun h33 => (some (false, e_32, h33))) (J.ds r14) (J.h r14)),
  kv1 (J.vs r14) fun p34 => (kds (J.ds r14) (some (true, p34, (J.h r14))))]) (fun p9 h10 => (some (true, p9, h10)))))
theorem F236_ok {S : FS} {D : FD} (hS : SpecsOK Tryz.prog S) (hD : DynOK Tryz.prog D) : SpecOK Tryz.prog 236 (F236 S D) :=
  SpecOK.of (c := match Tryz.f236.body with | some c => c | none => .skip) (by kernel_rfl) hS hD ⟨Tryz.func236, rfl, by decide⟩
    (.seq .n (.seq (.seq .n (.dup (.seq .n .n) .n)) (.seq .n (.seq (.seq .n (.join [(.norm, [6]), (.pan, [])] (.dup .n .n))) (.seq .n .n))))) 2 (fun args h => by kernel_rfl)
/-- (roundhouse/rec.State).step -/
noncomputable def F237 (S : FS) (D : FD) (args : List AV) (h : Heap) : Option (Bool × AV × Heap) :=
 kv4 args fun s_1 job_2 epoch_3 step_4 =>
 knt s_1 (Heap.pushK h (.cells (AV.cells s_1) true 76) fun h5 =>
 knt job_2 (Heap.pushK h5 (.cells (AV.cells job_2) true 3) fun h6 =>
 knt epoch_3 (Heap.pushK h6 (.cells (AV.cells epoch_3) true 3) fun h7 =>
 knt step_4 (Heap.pushK h7 (.cells (AV.cells step_4) true 3) fun h8 =>
 ob (kfa 1 (.ptr (Heap.next h) 0)) fun v9 =>
 ob (kload h8 v9) fun v10 =>
 ob (S 305 [v10, (.func 306 [(.ptr (Heap.next h5) 0), (.ptr (Heap.next h6) 0), (.ptr (Heap.next h7) 0)])] h8) fun r11 => kres r11 (fun v12 h13 =>
 (some (false, v12, h13))) (fun p14 h15 => (some (true, p14, h15)))))))
theorem F237_ok {S : FS} {D : FD} (hS : SpecsOK Tryz.prog S) (hD : DynOK Tryz.prog D) : SpecOK Tryz.prog 237 (F237 S D) :=
  SpecOK.of (c := match Tryz.f237.body with | some c => c | none => .skip) (by kernel_rfl) hS hD ⟨Tryz.func237, rfl, by decide⟩
    (.seq .n (.seq .n .n)) 4 (fun args h => by kernel_rfl)
/-- roundhouse/rec.copied -/
noncomputable def F238 (S : FS) (D : FD) (args : List AV) (h : Heap) : Option (Bool × AV × Heap) :=
 kv1 args fun s_1 =>
 knt s_1 (Heap.pushK h (.cells (AV.cells s_1) true 76) fun h2 =>
 Heap.pushK h2 (.cells [AV.nilslice, AV.nilslice, (.bool false)] true 76) fun h3 =>
 ob (kfa 0 (.ptr (Heap.next h) 0)) fun v4 =>
 ob (kload h3 v4) fun v5 =>
 ob (kfa 1 (.ptr (Heap.next h) 0)) fun v6 =>
 ob (kload h3 v6) fun v7 =>
 ob (kfa 2 (.ptr (Heap.next h) 0)) fun v8 =>
 ob (kload h3 v8) fun v9 =>
 ob (S 307 [v5] h3) fun r10 => kres r10 (fun v11 h12 =>
 kre (kload h12 v8) v9 (kre (kload h12 v6) v7 (ob (S 137 [v7] h12) fun r15 => kres r15 (fun v16 h17 =>
 kre (kload h17 v8) v9 (ob (abuild Tryz.prog 76 [(0, v11), (1, v16), (2, v9)]) fun v20 =>
 ob (kstore 3 (.ptr (Heap.next h2) 0) v20 h17) fun h21 =>
 ob (kloadN 3 h21 (.ptr (Heap.next h2) 0)) fun v22 => (some (false, v22, h21)))) (fun p18 h19 => none)))) (fun p13 h14 => none))
theorem F238_ok {S : FS} {D : FD} (hS : SpecsOK Tryz.prog S) (hD : DynOK Tryz.prog D) : SpecOK Tryz.prog 238 (F238 S D) :=
  SpecOK.of (c := match Tryz.f238.body with | some c => c | none => .skip) (by kernel_rfl) hS hD ⟨Tryz.func238, rfl, by decide⟩
    (.seq .n (.seq .n .n)) 1 (fun args h => by kernel_rfl)
/-- roundhouse/rec.changes -/
noncomputable def F239 (S : FS) (D : FD) (args : List AV) (h : Heap) : Option (Bool × AV × Heap) :=
 kv0 args (Heap.pushK h (.map [] [] 0) fun h1 =>
 ob (abuild Tryz.prog 363 [(0, (.func 308 []))]) fun v2 =>
 ob (amapSet Tryz.prog h1 364 (.map (Heap.next h)) (.int .i64 (.ofNat 0)) v2) fun h3 =>
 ob (S 309 [(.int .i64 (.ofNat 0))] h3) fun r4 => kres r4 (fun v5 h6 =>
 ob (amapSet Tryz.prog h6 364 (.map (Heap.next h)) (.int .i64 (.ofNat 1)) v5) fun h9 =>
 ob (S 309 [(.int .i64 (.ofNat 2))] h9) fun r10 => kres r10 (fun v11 h12 =>
 ob (amapSet Tryz.prog h12 364 (.map (Heap.next h)) (.int .i64 (.ofNat 2)) v11) fun h15 =>
 ob (S 310 [(.int .i64 (.ofNat 0)), (.int .i64 (.ofNat 1))] h15) fun r16 => kres r16 (fun v17 h18 =>
 ob (amapSet Tryz.prog h18 364 (.map (Heap.next h)) (.int .i64 (.ofNat 3)) v17) fun h21 =>
 ob (S 310 [(.int .i64 (.ofNat 0)), (.int .i64 (.ofNat 2))] h21) fun r22 => kres r22 (fun v23 h24 =>
 ob (amapSet Tryz.prog h24 364 (.map (Heap.next h)) (.int .i64 (.ofNat 4)) v23) fun h27 =>
 ob (S 310 [(.int .i64 (.ofNat 1)), (.int .i64 (.ofNat 3))] h27) fun r28 => kres r28 (fun v29 h30 =>
 ob (amapSet Tryz.prog h30 364 (.map (Heap.next h)) (.int .i64 (.ofNat 5)) v29) fun h33 =>
 ob (abuild Tryz.prog 363 [(0, (.func 311 []))]) fun v34 =>
 ob (amapSet Tryz.prog h33 364 (.map (Heap.next h)) (.int .i64 (.ofNat 6)) v34) fun h35 =>
 ob (abuild Tryz.prog 363 [(0, (.func 312 []))]) fun v36 =>
 ob (amapSet Tryz.prog h35 364 (.map (Heap.next h)) (.int .i64 (.ofNat 7)) v36) fun h37 =>
 (some (false, (.map (Heap.next h)), h37))) (fun p31 h32 => (some (true, p31, h32)))) (fun p25 h26 => (some (true, p25, h26)))) (fun p19 h20 => (some (true, p19, h20)))) (fun p13 h14 => (some (true, p13, h14)))) (fun p7 h8 => (some (true, p7, h8))))
theorem F239_ok {S : FS} {D : FD} (hS : SpecsOK Tryz.prog S) (hD : DynOK Tryz.prog D) : SpecOK Tryz.prog 239 (F239 S D) :=
  SpecOK.of (c := match Tryz.f239.body with | some c => c | none => .skip) (by kernel_rfl) hS hD ⟨Tryz.func239, rfl, by decide⟩
    (.seq .n (.seq .n .n)) 0 (fun args h => by kernel_rfl)
/-- (*roundhouse/procs.Table).Reap -/
noncomputable def F240 (S : FS) (D : FD) (args : List AV) (h : Heap) : Option (Bool × AV × Heap) :=
 kv2 args fun t_1 pid_2 =>
 Heap.pushK h (.cells [(.int .i64 (.ofNat 0)), (.int .i64 (.ofNat 0)), (.int .i64 (.ofNat 0)), (.int .i64 (.ofNat 0)), (.int .i64 (.ofNat 0)), AV.nilslice, (.int .i64 (.ofNat 0)), (.int .i64 (.ofNat 0))] true 92) fun h3 =>
 ob (S 234 [(.int .i64 (.ofNat 2))] h3) fun r4 => kres r4 (fun v5 h6 =>
 ob (S 199 [t_1, pid_2, v5] h6) fun r9 => kres r9 (fun v10 h11 =>
 ob (aextract v10 0) fun v14 =>
 ob (aextract v10 1) fun v15 =>
 ob (kbinI .neq v15 (.int .i64 (.ofNat 0))) fun v16 =>
 kif v16
  (ob (abuild Tryz.prog 92 []) fun v17 =>
  ob (kstore 8 (.ptr (Heap.next h) 0) v17 h11) fun h18 =>
  ob (kloadN 8 h18 (.ptr (Heap.next h) 0)) fun v19 => (some (false, (.tuple [v19, v15]), h18)))
  (ob (knil t_1) fun v20 =>
  ob (kfa 0 v20) fun v21 =>
  ob (kload h11 v21) fun v22 =>
  ob (amapDel Tryz.prog h11 172 v22 pid_2) fun h23 =>
  ob (knil v14) fun v24 =>
  ob (kfa 0 v24) fun v25 =>
  ob (kloadN 8 h23 v25) fun v26 =>
  ob (kstore 8 (.ptr (Heap.next h) 0) v26 h23) fun h27 =>
  ob (kloadN 8 h27 (.ptr (Heap.next h) 0)) fun v28 => (some (false, (.tuple [v28, (.int .i64 (.ofNat 0))]), h27)))) (fun p12 h13 => (some (true, p12, h13)))) (fun p7 h8 => (some (true, p7, h8)))
theorem F240_ok {S : FS} {D : FD} (hS : SpecsOK Tryz.prog S) (hD : DynOK Tryz.prog D) : SpecOK Tryz.prog 240 (F240 S D) :=
  SpecOK.of (c := match Tryz.f240.body with | some c => c | none => .skip) (by kernel_rfl) hS hD ⟨Tryz.func240, rfl, by decide⟩
    (.seq .n (.seq .n (.seq (.seq .n (.dup (.seq .n .n) .n)) (.seq .n (.seq .n .n))))) 2 (fun args h => by kernel_rfl)
/-- roundhouse/mask.core -/
noncomputable def F241 (S : FS) (D : FD) (args : List AV) (h : Heap) : Option (Bool × AV × Heap) :=
 kv1 args fun c_1 =>
 ob (kbinI .geq c_1 (.int .i64 (.ofNat 0))) fun v2 =>
 ob (kgv true v2 (some c_1)) fun v3 =>
 ob (kgv true v2 (kbinI .lss v3 (.int .i64 (.ofNat 256)))) fun v4 =>
 ob (kpick v2 v4 (.bool false)) fun v5 =>
 (some (false, v5, h))
theorem F241_ok {S : FS} {D : FD} (hS : SpecsOK Tryz.prog S) (hD : DynOK Tryz.prog D) : SpecOK Tryz.prog 241 (F241 S D) :=
  SpecOK.of (c := match Tryz.f241.body with | some c => c | none => .skip) (by kernel_rfl) hS hD ⟨Tryz.func241, rfl, by decide⟩
    (.seq .n (.seq .n .n)) 1 (fun args h => by kernel_rfl)
/-- (roundhouse/mask.Mask).Has -/
noncomputable def F242 (S : FS) (D : FD) (args : List AV) (h : Heap) : Option (Bool × AV × Heap) :=
 kv2 args fun m_1 c_2 =>
 knt m_1 (Heap.pushK h (.cells (AV.cells m_1) true 287) fun h3 =>
 ob (S 241 [c_2] h3) fun r4 => kres r4 (fun v5 h6 =>
 ob (kgv true v5 (some c_2)) fun v9 =>
 ob (kgv true v5 (kbinI .quo v9 (.int .i64 (.ofNat 64)))) fun v10 =>
 ob (kgv true v5 (kiaA 4 1 (.ptr (Heap.next h) 0) v10)) fun v11 =>
 ob (kgv true v5 (kload h6 v11)) fun v12 =>
 ob (kgv true v5 (some c_2)) fun v13 =>
 ob (kgv true v5 (kbinI .rem v13 (.int .i64 (.ofNat 64)))) fun v14 =>
 ob (kgv true v5 (kbinI .shr v12 v14)) fun v15 =>
 ob (kgv true v5 (kbinI .and v15 (.int .u64 (.ofNat 1)))) fun v16 =>
 ob (kgv true v5 (kbinI .eql v16 (.int .u64 (.ofNat 1)))) fun v17 =>
 ob (kpick v5 v17 (.bool false)) fun v18 =>
 (some (false, v18, h6))) (fun p7 h8 => (some (true, p7, h8))))
theorem F242_ok {S : FS} {D : FD} (hS : SpecsOK Tryz.prog S) (hD : DynOK Tryz.prog D) : SpecOK Tryz.prog 242 (F242 S D) :=
  SpecOK.of (c := match Tryz.f242.body with | some c => c | none => .skip) (by kernel_rfl) hS hD ⟨Tryz.func242, rfl, by decide⟩
    (.seq .n (.seq .n .n)) 2 (fun args h => by kernel_rfl)
/-- (roundhouse/mask.Mask).with -/
noncomputable def F243 (S : FS) (D : FD) (args : List AV) (h : Heap) : Option (Bool × AV × Heap) :=
 kv2 args fun m_1 c_2 =>
 knt m_1 (Heap.pushK h (.cells (AV.cells m_1) true 287) fun h3 =>
 Heap.pushK h3 (.cells [(.int .u64 (.ofNat 0)), (.int .u64 (.ofNat 0)), (.int .u64 (.ofNat 0)), (.int .u64 (.ofNat 0))] true 287) fun h4 =>
 ob (kbinI .quo c_2 (.int .i64 (.ofNat 64))) fun v5 =>
 ob (kiaA 4 1 (.ptr (Heap.next h) 0) v5) fun v6 =>
 ob (kload h4 v6) fun v7 =>
 ob (kbinI .rem c_2 (.int .i64 (.ofNat 64))) fun v8 =>
 ob (kbinI .shl (.int .u64 (.ofNat 1)) v8) fun v9 =>
 ob (kbinI .or v7 v9) fun v10 =>
 ob (kiaA 4 1 (.ptr (Heap.next h) 0) v5) fun v11 =>
 ob (kstore 1 v11 v10 h4) fun h12 =>
 ob (kloadN 4 h12 (.ptr (Heap.next h) 0)) fun v13 =>
 ob (kstore 4 (.ptr (Heap.next h3) 0) v13 h12) fun h14 =>
 ob (kloadN 4 h14 (.ptr (Heap.next h3) 0)) fun v15 => (some (false, v15, h14)))
theorem F243_ok {S : FS} {D : FD} (hS : SpecsOK Tryz.prog S) (hD : DynOK Tryz.prog D) : SpecOK Tryz.prog 243 (F243 S D) :=
  SpecOK.of (c := match Tryz.f243.body with | some c => c | none => .skip) (by kernel_rfl) hS hD ⟨Tryz.func243, rfl, by decide⟩
    (.seq .n (.seq .n (.seq .n .n))) 2 (fun args h => by kernel_rfl)
/-- (roundhouse/mask.Mask).each -/
noncomputable def F244 (S : FS) (D : FD) (args : List AV) (h : Heap) : Option (Bool × AV × Heap) :=
 kv3 args fun m_1 o_2 do_3 =>
 knt m_1 (Heap.pushK h (.cells (AV.cells m_1) true 287) fun h4 =>
 knt o_2 (Heap.pushK h4 (.cells (AV.cells o_2) true 287) fun h5 =>
 Heap.pushK h5 (.cells [(.int .u64 (.ofNat 0)), (.int .u64 (.ofNat 0)), (.int .u64 (.ofNat 0)), (.int .u64 (.ofNat 0))] true 287) fun h6 =>
 ob (iterD (fun vs7 ds8 h9 => kv5 vs7 fun do_10 m_11 o_12 v13 v14 =>
  ob (kbinI .lss v14 (.int .i64 (.ofNat 4))) fun v15 =>
  kif v15
   (ob (kiaA 4 1 m_11 v14) fun v16 =>
   ob (kload h9 v16) fun v17 =>
   ob (kiaA 4 1 o_12 v14) fun v18 =>
   ob (kload h9 v18) fun v19 =>
   ob (D do_10 [v17, v19] h9) fun r20 => kres r20 (fun v21 h22 =>
   ob (kiaA 4 1 m_11 v14) fun v25 =>
   ob (kstore 1 v25 v21 h22) fun h26 =>
   ob (kbinI .add v14 (.int .i64 (.ofNat 1))) fun v27 =>
   (some ⟨0, [do_10, m_11, o_12, v13, v27], ds8, h26⟩)) (fun p23 h24 => none))
   ((some ⟨1, [m_11, v13], ds8, h9⟩))) rounds [do_3, (.ptr (Heap.next h) 0), (.ptr (Heap.next h4) 0), (.ptr (Heap.next h5) 0), (.int .i64 (.ofNat 0))] [] h6) fun r28 => kcase (J.i r28) [kv2 (J.vs r28) fun m_29 v30 =>
  ob (kloadN 4 (J.h r28) m_29) fun v31 =>
  ob (kstore 4 v30 v31 (J.h r28)) fun h32 =>
  (dleave (fun h33 => ob (kloadN 4 h33 v30) fun v34 => (some (false, v34, h33))) (J.ds r28) h32),
 kv1 (J.vs r28) fun p35 => (kds (J.ds r28) (some (true, p35, (J.h r28))))]))
theorem F244_ok {S : FS} {D : FD} (hS : SpecsOK Tryz.prog S) (hD : DynOK Tryz.prog D) : SpecOK Tryz.prog 244 (F244 S D) :=
  SpecOK.of (c := match Tryz.f244.body with | some c => c | none => .skip) (by kernel_rfl) hS hD ⟨Tryz.func244, rfl, by decide⟩
    (.seq .n (.seq (.seq .n (.one (.loop [2, 3, 4, 6, 8] [(.exit 0, [3, 6]), (.pan, [])] (.seq .n (.seq (.dup .n .n) (.seq (.one (.seq .n .n)) .n)))))) (.seq .n .n))) 3 (fun args h => by kernel_rfl)
/-- (roundhouse/mask.Mask).Or$1 -/
noncomputable def F245 (S : FS) (D : FD) (args : List AV) (h : Heap) : Option (Bool × AV × Heap) :=
 kv2 args fun a_1 b_2 =>
 ob (kbinI .or a_1 b_2) fun v3 =>
 (some (false, v3, h))
theorem F245_ok {S : FS} {D : FD} (hS : SpecsOK Tryz.prog S) (hD : DynOK Tryz.prog D) : SpecOK Tryz.prog 245 (F245 S D) :=
  SpecOK.of (c := match Tryz.f245.body with | some c => c | none => .skip) (by kernel_rfl) hS hD ⟨Tryz.func245, rfl, by decide⟩
    (.seq .n (.seq .n .n)) 2 (fun args h => by kernel_rfl)
/-- (*roundhouse/pool.Pool).fresh -/
noncomputable def F246 (S : FS) (D : FD) (args : List AV) (h : Heap) : Option (Bool × AV × Heap) :=
 kv2 args fun p_1 owner_2 =>
 ob (kbinO Tryz.prog .eql 77 true p_1 AV.nilptr) fun v3 =>
 ob (kgv false v3 (some owner_2)) fun v4 =>
 ob (kgc false v3 h (S 313 [v4] h)) fun r5 => kres r5 (fun v6 h7 =>
 ob (kgv false v3 (aun .not v6)) fun v10 =>
 ob (kpick v3 (.bool true) v10) fun v11 =>
 kif v11
  ((some (false, (.int .i64 (.ofNat 1)), h7)))
  (ob (knil p_1) fun v12 =>
  ob (kfa 2 v12) fun v13 =>
  ob (kload h7 v13) fun v14 =>
  ob (alookup Tryz.prog h7 231 v14 owner_2 true) fun v15 =>
  ob (aextract v15 0) fun v16 =>
  ob (aextract v15 1) fun v17 =>
  Heap.pushK h7 (.cells [(.int .u64 (.ofNat 0)), (.int .u64 (.ofNat 0)), (.int .u64 (.ofNat 0)), (.int .u64 (.ofNat 0)), (.bool false)] true 374) fun h18 =>
  ob (kstore 5 (.ptr (Heap.next h7) 0) v16 h18) fun h19 =>
  kif v17
   ((some (false, (.int .i64 (.ofNat 14)), h19)))
   ((some (false, (.int .i64 (.ofNat 0)), h19))))) (fun p8 h9 => (some (true, p8, h9)))
theorem F246_ok {S : FS} {D : FD} (hS : SpecsOK Tryz.prog S) (hD : DynOK Tryz.prog D) : SpecOK Tryz.prog 246 (F246 S D) :=
  SpecOK.of (c := match Tryz.f246.body with | some c => c | none => .skip) (by kernel_rfl) hS hD ⟨Tryz.func246, rfl, by decide⟩
    (.seq .n (.seq (.seq .n (.dup (.seq .n .n) .n)) (.seq (.seq .n (.seq .n (.dup (.seq .n .n) .n))) (.seq .n .n)))) 2 (fun args h => by kernel_rfl)
/-- (roundhouse/mask.Mask).Minus -/
noncomputable def F247 (S : FS) (D : FD) (args : List AV) (h : Heap) : Option (Bool × AV × Heap) :=
 kv2 args fun m_1 o_2 =>
 knt m_1 (Heap.pushK h (.cells (AV.cells m_1) true 287) fun h3 =>
 knt o_2 (Heap.pushK h3 (.cells (AV.cells o_2) true 287) fun h4 =>
 Heap.pushK h4 (.cells [(.int .u64 (.ofNat 0)), (.int .u64 (.ofNat 0)), (.int .u64 (.ofNat 0)), (.int .u64 (.ofNat 0))] true 287) fun h5 =>
 ob (kloadN 4 h5 (.ptr (Heap.next h) 0)) fun v6 =>
 ob (kloadN 4 h5 (.ptr (Heap.next h3) 0)) fun v7 =>
 ob (S 244 [v6, v7, (.func 314 [])] h5) fun r8 => kres r8 (fun v9 h10 =>
 ob (kstore 4 (.ptr (Heap.next h4) 0) v9 h10) fun h13 =>
 ob (kloadN 4 h13 (.ptr (Heap.next h4) 0)) fun v14 => (some (false, v14, h13))) (fun p11 h12 => (some (true, p11, h12)))))
theorem F247_ok {S : FS} {D : FD} (hS : SpecsOK Tryz.prog S) (hD : DynOK Tryz.prog D) : SpecOK Tryz.prog 247 (F247 S D) :=
  SpecOK.of (c := match Tryz.f247.body with | some c => c | none => .skip) (by kernel_rfl) hS hD ⟨Tryz.func247, rfl, by decide⟩
    (.seq .n (.seq .n .n)) 2 (fun args h => by kernel_rfl)
/-- (*roundhouse/pool.Pool).Free -/
noncomputable def F248 (S : FS) (D : FD) (args : List AV) (h : Heap) : Option (Bool × AV × Heap) :=
 kv1 args fun p_1 =>
 Heap.pushK h (.cells [(.int .u64 (.ofNat 0)), (.int .u64 (.ofNat 0)), (.int .u64 (.ofNat 0)), (.int .u64 (.ofNat 0))] true 287) fun h2 =>
 ob (kbinO Tryz.prog .eql 77 true p_1 AV.nilptr) fun v3 =>
 kif v3
  (ob (abuild Tryz.prog 287 []) fun v4 =>
  ob (kstore 4 (.ptr (Heap.next h) 0) v4 h2) fun h5 =>
  ob (kloadN 4 h5 (.ptr (Heap.next h) 0)) fun v6 => (some (false, v6, h5)))
  (ob (knil p_1) fun v7 =>
  ob (kfa 0 v7) fun v8 =>
  ob (kloadN 2 h2 v8) fun v9 =>
  ob (S 315 [v9] h2) fun r10 => kres r10 (fun v11 h12 =>
  Heap.pushK h12 (.cells [(.int .u64 (.ofNat 0)), (.int .u64 (.ofNat 0)), (.int .u64 (.ofNat 0)), (.int .u64 (.ofNat 0))] true 287) fun h15 =>
  ob (kstore 4 (.ptr (Heap.next h12) 0) v11 h15) fun h16 =>
  ob (knil p_1) fun v17 =>
  ob (kfa 2 v17) fun v18 =>
  ob (kload h16 v18) fun v19 =>
  ob (arangeM Tryz.prog h16 231 v19) fun r20 =>
  ob (iterD (fun vs21 ds22 h23 => kv3 vs21 fun v24 free_25 v26 =>
   ob (anext h23 v26 false) fun r27 =>
   ob (aextract r27.1 0) fun v28 =>
   kif v28
    (ob (aentry r27.2 v26) fun v29 =>
    ob (aextract v29 1) fun v30 =>
    Heap.pushK r27.2 (.cells [(.int .u64 (.ofNat 0)), (.int .u64 (.ofNat 0)), (.int .u64 (.ofNat 0)), (.int .u64 (.ofNat 0)), (.bool false)] true 374) fun h31 =>
    ob (kstore 5 (.ptr (Heap.next r27.2) 0) v30 h31) fun h32 =>
    ob (kloadN 4 h32 free_25) fun v33 =>
    ob (kfa 0 (.ptr (Heap.next r27.2) 0)) fun v34 =>
    ob (kloadN 4 h32 v34) fun v35 =>
    ob (S 247 [v33, v35] h32) fun r36 => kres r36 (fun v37 h38 =>
    ob (kstore 4 free_25 v37 h38) fun h41 =>
    (some ⟨0, [v24, free_25, v26], ds22, h41⟩)) (fun p39 h40 => (some ⟨2, [p39], ds22, h40⟩)))
    ((some ⟨1, [v24, free_25], ds22, r27.2⟩))) rounds [(.ptr (Heap.next h) 0), (.ptr (Heap.next h12) 0), r20.1] [] r20.2) fun r42 => kcase (J.i r42) [kv2 (J.vs r42) fun v43 free_44 =>
   ob (kloadN 4 (J.h r42) free_44) fun v45 =>
   ob (kstore 4 v43 v45 (J.h r42)) fun h46 =>
   (dleave (fun h47 => ob (kloadN 4 h47 v43) fun v48 => (some (false, v48, h47))) (J.ds r42) h46),
  kv1 (J.vs r42) fun p49 => (kds (J.ds r42) (some (true, p49, (J.h r42))))]) (fun p13 h14 => (some (true, p13, h14))))
theorem F248_ok {S : FS} {D : FD} (hS : SpecsOK Tryz.prog S) (hD : DynOK Tryz.prog D) : SpecOK Tryz.prog 248 (F248 S D) :=
  SpecOK.of (c := match Tryz.f248.body with | some c => c | none => .skip) (by kernel_rfl) hS hD ⟨Tryz.func248, rfl, by decide⟩
    (.seq .n (.seq (.seq .n (.dup (.seq .n .n) .n)) (.seq .n (.seq (.seq .n (.one (.loop [2, 3, 18] [(.exit 0, [2, 3]), (.pan, [])] (.seq .n (.seq (.dup .n .n) (.one (.seq .n .n))))))) (.seq .n .n))))) 1 (fun args h => by kernel_rfl)
/-- (*roundhouse/procs.Table).Release -/
noncomputable def F249 (S : FS) (D : FD) (args : List AV) (h : Heap) : Option (Bool × AV × Heap) :=
 kv2 args fun t_1 pid_2 =>
 ob (S 234 [(.int .i64 (.ofNat 0))] h) fun r3 => kres r3 (fun v4 h5 =>
 ob (S 199 [t_1, pid_2, v4] h5) fun r8 => kres r8 (fun v9 h10 =>
 ob (aextract v9 0) fun v13 =>
 ob (aextract v9 1) fun v14 =>
 ob (kbinI .eql v14 (.int .i64 (.ofNat 0))) fun v15 =>
 ob (kif v15
  (ob (knil v13) fun v17 =>
  ob (kfa 0 v17) fun v18 =>
  ob (kfa 6 v18) fun v19 =>
  ob (kstore 1 v19 (.int .i64 (.ofNat 1)) h10) fun h20 =>
  (some ⟨0, [v14], [], h20⟩))
  ((some ⟨0, [v14], [], h10⟩))) fun r16 => kcase (J.i r16) [kv1 (J.vs r16) fun e_21 =>
  (dleave (fun h22 => (some (false, e_21, h22))) (J.ds r16) (J.h r16))]) (fun p11 h12 => (some (true, p11, h12)))) (fun p6 h7 => (some (true, p6, h7)))
theorem F249_ok {S : FS} {D : FD} (hS : SpecsOK Tryz.prog S) (hD : DynOK Tryz.prog D) : SpecOK Tryz.prog 249 (F249 S D) :=
  SpecOK.of (c := match Tryz.f249.body with | some c => c | none => .skip) (by kernel_rfl) hS hD ⟨Tryz.func249, rfl, by decide⟩
    (.seq .n (.seq .n (.seq (.seq .n (.join [(.norm, [6])] (.dup .n .n))) (.seq .n .n)))) 2 (fun args h => by kernel_rfl)
/-- roundhouse/node.Exit$1 -/
noncomputable def F250 (S : FS) (D : FD) (args : List AV) (h : Heap) : Option (Bool × AV × Heap) :=
 kv1 args fun c_1 =>
 ob (S 214 [c_1, (.int .i64 (.ofNat 0)), (.int .i64 (.ofNat 255))] h) fun r2 => kres r2 (fun v3 h4 =>
 ob (aun .not v3) fun v7 =>
 (some (false, v7, h4))) (fun p5 h6 => (some (true, p5, h6)))
theorem F250_ok {S : FS} {D : FD} (hS : SpecsOK Tryz.prog S) (hD : DynOK Tryz.prog D) : SpecOK Tryz.prog 250 (F250 S D) :=
  SpecOK.of (c := match Tryz.f250.body with | some c => c | none => .skip) (by kernel_rfl) hS hD ⟨Tryz.func250, rfl, by decide⟩
    (.seq .n (.seq .n .n)) 1 (fun args h => by kernel_rfl)
/-- slices.ContainsFunc[[]int,int] -/
noncomputable def F251 (S : FS) (D : FD) (args : List AV) (h : Heap) : Option (Bool × AV × Heap) :=
 kv2 args fun s_1 f_2 =>
 ob (S 129 [s_1, f_2] h) fun r3 => kres r3 (fun v4 h5 =>
 ob (kbinI .geq v4 (.int .i64 (.ofNat 0))) fun v8 =>
 (some (false, v8, h5))) (fun p6 h7 => (some (true, p6, h7)))
theorem F251_ok {S : FS} {D : FD} (hS : SpecsOK Tryz.prog S) (hD : DynOK Tryz.prog D) : SpecOK Tryz.prog 251 (F251 S D) :=
  SpecOK.of (c := match Tryz.f251.body with | some c => c | none => .skip) (by kernel_rfl) hS hD ⟨Tryz.func251, rfl, by decide⟩
    (.seq .n (.seq .n .n)) 2 (fun args h => by kernel_rfl)
/-- roundhouse/tally.Worst -/
noncomputable def F252 (S : FS) (D : FD) (args : List AV) (h : Heap) : Option (Bool × AV × Heap) :=
 kv1 args fun l_1 =>
 ob (klenL l_1) fun v2 =>
 ob (kbinI .eql v2 (.int .i64 (.ofNat 0))) fun v3 =>
 kif v3
  ((some (false, (.int .i64 (.ofNat 0)), h)))
  (ob (S 316 [l_1] h) fun r4 => kres r4 (fun v5 h6 =>
  (some (false, v5, h6))) (fun p7 h8 => (some (true, p7, h8))))
theorem F252_ok {S : FS} {D : FD} (hS : SpecsOK Tryz.prog S) (hD : DynOK Tryz.prog D) : SpecOK Tryz.prog 252 (F252 S D) :=
  SpecOK.of (c := match Tryz.f252.body with | some c => c | none => .skip) (by kernel_rfl) hS hD ⟨Tryz.func252, rfl, by decide⟩
    (.seq .n (.seq (.seq .n (.dup (.seq .n .n) .n)) (.seq .n .n))) 1 (fun args h => by kernel_rfl)
/-- (*roundhouse/node.asked).answer -/
noncomputable def F253 (S : FS) (D : FD) (args : List AV) (h : Heap) : Option (Bool × AV × Heap) :=
 kv4 args fun x_1 a_2 kind_3 arg_4 =>
 knt a_2 (Heap.pushK h (.cells (AV.cells a_2) true 272) fun h5 =>
 Heap.pushK h5 (.cells [(.bool false), (.int .i64 (.ofNat 0)), (.int .i64 (.ofNat 0)), (.int .i64 (.ofNat 0)), (.int .i64 (.ofNat 0)), (.int .i64 (.ofNat 0)), AV.nilslice, (.bool false), (.int .i64 (.ofNat 0)), (.int .i64 (.ofNat 0)), (.int .i64 (.ofNat 0)), (.int .i64 (.ofNat 0)), (.int .i64 (.ofNat 0)), (.int .i64 (.ofNat 0)), (.int .i64 (.ofNat 0)), (.str 0 0), (.bool false), (.bool false), (.bool false)] true 272) fun h6 =>
 ob (kfa 7 (.ptr (Heap.next h) 0)) fun v7 =>
 ob (kstore 1 v7 (.bool true) h6) fun h8 =>
 ob (knil x_1) fun v9 =>
 ob (kfa 8 v9) fun v10 =>
 ob (kload h8 v10) fun v11 =>
 ob (knil x_1) fun v12 =>
 ob (kfa 0 v12) fun v13 =>
 ob (kfa 3 v13) fun v14 =>
 ob (kload h8 v14) fun v15 =>
 ob (knil x_1) fun v16 =>
 ob (kfa 0 v16) fun v17 =>
 ob (kfa 4 v17) fun v18 =>
 ob (kload h8 v18) fun v19 =>
 ob (knil x_1) fun v20 =>
 ob (kfa 0 v20) fun v21 =>
 ob (kfa 5 v21) fun v22 =>
 ob (kload h8 v22) fun v23 =>
 ob (abuild Tryz.prog 205 [(0, kind_3), (1, v11), (2, (.int .i64 (.negSucc 0))), (3, v15), (4, v19), (5, v23), (6, arg_4)]) fun v24 =>
 ob (kfa 8 (.ptr (Heap.next h) 0)) fun v25 =>
 ob (kstore 8 v25 v24 h8) fun h26 =>
 ob (kloadN 19 h26 (.ptr (Heap.next h) 0)) fun v27 =>
 ob (kstore 19 (.ptr (Heap.next h5) 0) v27 h26) fun h28 =>
 ob (kloadN 19 h28 (.ptr (Heap.next h5) 0)) fun v29 => (some (false, v29, h28)))
theorem F253_ok {S : FS} {D : FD} (hS : SpecsOK Tryz.prog S) (hD : DynOK Tryz.prog D) : SpecOK Tryz.prog 253 (F253 S D) :=
  SpecOK.of (c := match Tryz.f253.body with | some c => c | none => .skip) (by kernel_rfl) hS hD ⟨Tryz.func253, rfl, by decide⟩
    (.seq .n (.seq .n (.seq .n (.seq .n .n)))) 4 (fun args h => by kernel_rfl)
/-- (*roundhouse/node.asked).write -/
noncomputable def F254 (S : FS) (D : FD) (args : List AV) (h : Heap) : Option (Bool × AV × Heap) :=
 kv3 args fun x_1 kind_2 arg_3 =>
 Heap.pushK h (.cells [(.bool false), (.int .i64 (.ofNat 0)), (.int .i64 (.ofNat 0)), (.int .i64 (.ofNat 0)), (.int .i64 (.ofNat 0)), (.int .i64 (.ofNat 0)), AV.nilslice, (.bool false), (.int .i64 (.ofNat 0)), (.int .i64 (.ofNat 0)), (.int .i64 (.ofNat 0)), (.int .i64 (.ofNat 0)), (.int .i64 (.ofNat 0)), (.int .i64 (.ofNat 0)), (.int .i64 (.ofNat 0)), (.str 0 0), (.bool false), (.bool false), (.bool false)] true 272) fun h4 =>
 ob (knil x_1) fun v5 =>
 ob (kfa 0 v5) fun v6 =>
 ob (kfa 3 v6) fun v7 =>
 ob (kload h4 v7) fun v8 =>
 ob (knil x_1) fun v9 =>
 ob (kfa 0 v9) fun v10 =>
 ob (kfa 4 v10) fun v11 =>
 ob (kload h4 v11) fun v12 =>
 ob (knil x_1) fun v13 =>
 ob (kfa 0 v13) fun v14 =>
 ob (kfa 5 v14) fun v15 =>
 ob (kload h4 v15) fun v16 =>
 ob (abuild Tryz.prog 120 [(0, kind_2), (1, v8), (2, v12), (3, v16), (4, arg_3)]) fun v17 =>
 kfree h4 (Heap.pushK h4 (.cells [(.int .i64 (.ofNat 0)), (.int .i64 (.ofNat 0)), (.int .i64 (.ofNat 0)), (.int .i64 (.ofNat 0)), (.int .i64 (.ofNat 0)), AV.nilslice] true 120) fun h18 =>
 ob (kstore 6 (.ptr (Heap.next h4) 0) v17 h18) fun h19 =>
 ob (kbinI .eql kind_2 (.int .i64 (.ofNat 0))) fun v20 =>
 ob (kgv false v20 (some kind_2)) fun v21 =>
 ob (kgv false v20 (kbinI .geq v21 (.int .i64 (.ofNat 6)))) fun v22 =>
 ob (kpick v20 (.bool true) v22) fun v23 =>
 ob (kif v23
  (ob (kfa 3 (.ptr (Heap.next h4) 0)) fun v25 =>
  ob (kstore 1 v25 (.int .i64 (.ofNat 0)) h19) fun h26 =>
  (some ⟨0, [(.ptr (Heap.next h) 0), (.ptr (Heap.next h4) 0)], [], h26⟩))
  ((some ⟨0, [(.ptr (Heap.next h) 0), (.ptr (Heap.next h4) 0)], [], h19⟩))) fun r24 => kcase (J.i r24) [kv2 (J.vs r24) fun v27 r_28 =>
  ob (kloadN 6 (J.h r24) r_28) fun v29 =>
  ob (abuild Tryz.prog 272 [(0, (.bool true)), (1, v29)]) fun v30 =>
  ob (kstore 19 v27 v30 (J.h r24)) fun h31 =>
  (dleave (fun h32 => ob (kloadN 19 h32 v27) fun v33 => (some (false, v33, h32))) (J.ds r24) h31)])
theorem F254_ok {S : FS} {D : FD} (hS : SpecsOK Tryz.prog S) (hD : DynOK Tryz.prog D) : SpecOK Tryz.prog 254 (F254 S D) :=
  SpecOK.of (c := match Tryz.f254.body with | some c => c | none => .skip) (by kernel_rfl) hS hD ⟨Tryz.func254, rfl, by decide⟩
    (.seq .n (.seq .n (.seq (.seq .n (.join [(.norm, [6, 7])] (.dup .n .n))) (.seq .n .n)))) 3 (fun args h => by kernel_rfl)
/-- slices.Backward[[]int,int]$1 -/
noncomputable def F255 (S : FS) (D : FD) (args : List AV) (h : Heap) : Option (Bool × AV × Heap) :=
 kv2 args fun yield_1 v2 =>
 ob (kload h v2) fun v3 =>
 ob (klenL v3) fun v4 =>
 ob (kbinI .sub v4 (.int .i64 (.ofNat 1))) fun v5 =>
 ob (iterD (fun vs6 ds7 h8 => kv3 vs6 fun yield_9 v10 i_11 =>
  ob (kbinI .geq i_11 (.int .i64 (.ofNat 0))) fun v12 =>
  kif v12
   (ob (kload h8 v10) fun v13 =>
   ob (kia 1 v13 i_11) fun v14 =>
   ob (kload h8 v14) fun v15 =>
   ob (D yield_9 [i_11, v15] h8) fun r16 => kres r16 (fun v17 h18 =>
   ob (aun .not v17) fun v21 =>
   kif v21
    ((some ⟨2, [], ds7, h18⟩))
    (ob (kbinI .sub i_11 (.int .i64 (.ofNat 1))) fun v22 =>
    (some ⟨0, [yield_9, v10, v22], ds7, h18⟩))) (fun p19 h20 => (some ⟨3, [p19], ds7, h20⟩)))
   ((some ⟨1, [], ds7, h8⟩))) rounds [yield_1, v2, v5] [] h) fun r23 => kcase (J.i r23) [kv0 (J.vs r23) ((dleave (fun h24 => (some (false, (.tuple []), h24))) (J.ds r23) (J.h r23))),
 kv0 (J.vs r23) ((dleave (fun h25 => (some (false, (.tuple []), h25))) (J.ds r23) (J.h r23))),
 kv1 (J.vs r23) fun p26 => (kds (J.ds r23) (some (true, p26, (J.h r23))))]
theorem F255_ok {S : FS} {D : FD} (hS : SpecsOK Tryz.prog S) (hD : DynOK Tryz.prog D) : SpecOK Tryz.prog 255 (F255 S D) :=
  SpecOK.of (c := match Tryz.f255.body with | some c => c | none => .skip) (by kernel_rfl) hS hD ⟨Tryz.func255, rfl, by decide⟩
    (.seq .n (.one (.loop [0, 1, 3] [(.exit 0, []), (.ret, []), (.pan, [])] (.seq (.seq .n (.dup .n .n)) (.seq (.one (.seq .n (.dup .n .n))) .n))))) 2 (fun args h => by kernel_rfl)
/-- roundhouse/dag.with -/
noncomputable def F256 (S : FS) (D : FD) (args : List AV) (h : Heap) : Option (Bool × AV × Heap) :=
 kv2 args fun l_1 codes_2 =>
 ob (S 91 [l_1] h) fun r3 => kres r3 (fun v4 h5 =>
 ob (kbinI .neq v4 (.int .i64 (.ofNat 0))) fun v8 =>
 kif v8
  ((some (false, v4, h5)))
  (ob (klenL codes_2) fun v9 =>
  ob (klenL l_1) fun v10 =>
  ob (kbinI .neq v9 v10) fun v11 =>
  ob (kgv false v11 (some codes_2)) fun v12 =>
  ob (kgc false v11 h5 (S 251 [v12, (.func 317 [])] h5)) fun r13 => kres r13 (fun v14 h15 =>
  ob (kpick v11 (.bool true) v14) fun v18 =>
  kif v18
   ((some (false, (.int .i64 (.ofNat 5)), h15)))
   ((some (false, (.int .i64 (.ofNat 0)), h15)))) (fun p16 h17 => (some (true, p16, h17))))) (fun p6 h7 => (some (true, p6, h7)))
theorem F256_ok {S : FS} {D : FD} (hS : SpecsOK Tryz.prog S) (hD : DynOK Tryz.prog D) : SpecOK Tryz.prog 256 (F256 S D) :=
  SpecOK.of (c := match Tryz.f256.body with | some c => c | none => .skip) (by kernel_rfl) hS hD ⟨Tryz.func256, rfl, by decide⟩
    (.seq .n (.seq (.seq .n (.seq .n (.dup (.seq .n .n) .n))) (.seq (.seq .n (.dup (.seq .n .n) .n)) (.seq .n .n)))) 2 (fun args h => by kernel_rfl)
/-- roundhouse/dag.Settle$1 -/
noncomputable def F257 (S : FS) (D : FD) (args : List AV) (h : Heap) : Option (Bool × AV × Heap) :=
 kv2 args fun e_1 v2 =>
 knt e_1 (Heap.pushK h (.cells (AV.cells e_1) true 148) fun h3 =>
 ob (kload h3 v2) fun v4 =>
 ob (kfa 0 (.ptr (Heap.next h) 0)) fun v5 =>
 ob (kload h3 v5) fun v6 =>
 ob (kia 1 v4 v6) fun v7 =>
 ob (kload h3 v7) fun v8 =>
 ob (kbinI .neq v8 (.int .i64 (.negSucc 0))) fun v9 =>
 ob (kgv true v9 (kloadN 2 h3 (.ptr (Heap.next h) 0))) fun v10 =>
 ob (kgv true v9 (kload h3 v2)) fun v11 =>
 ob (kgc true v9 h3 (S 258 [v10, v11] h3)) fun r12 => kres r12 (fun v13 h14 =>
 ob (kgv true v9 (aun .not v13)) fun v17 =>
 ob (kpick v9 v17 (.bool false)) fun v18 =>
 (some (false, v18, h14))) (fun p15 h16 => (some (true, p15, h16))))
theorem F257_ok {S : FS} {D : FD} (hS : SpecsOK Tryz.prog S) (hD : DynOK Tryz.prog D) : SpecOK Tryz.prog 257 (F257 S D) :=
  SpecOK.of (c := match Tryz.f257.body with | some c => c | none => .skip) (by kernel_rfl) hS hD ⟨Tryz.func257, rfl, by decide⟩
    (.seq .n (.seq .n .n)) 2 (fun args h => by kernel_rfl)
/-- roundhouse/dag.holds -/
noncomputable def F258 (S : FS) (D : FD) (args : List AV) (h : Heap) : Option (Bool × AV × Heap) :=
 kv2 args fun e_1 codes_2 =>
 knt e_1 (Heap.pushK h (.cells (AV.cells e_1) true 148) fun h3 =>
 ob (kfa 0 (.ptr (Heap.next h) 0)) fun v4 =>
 ob (kload h3 v4) fun v5 =>
 ob (kia 1 codes_2 v5) fun v6 =>
 ob (kload h3 v6) fun v7 =>
 ob (kfa 1 (.ptr (Heap.next h) 0)) fun v8 =>
 ob (kload h3 v8) fun v9 =>
 ob (kbinI .eql v9 (.int .i64 (.ofNat 0))) fun v10 =>
 kif v10
  (ob (kbinI .eql v7 (.int .i64 (.ofNat 0))) fun v11 =>
  (some (false, v11, h3)))
  (ob (kbinI .eql v9 (.int .i64 (.ofNat 1))) fun v12 =>
  kif v12
   (ob (kbinI .neq v7 (.int .i64 (.negSucc 0))) fun v13 =>
   (some (false, v13, h3)))
   (ob (S 130 [v7, (.int .i64 (.ofNat 1)), (.int .i64 (.ofNat 255))] h3) fun r14 => kres r14 (fun v15 h16 =>
   (some (false, v15, h16))) (fun p17 h18 => (some (true, p17, h18))))))
theorem F258_ok {S : FS} {D : FD} (hS : SpecsOK Tryz.prog S) (hD : DynOK Tryz.prog D) : SpecOK Tryz.prog 258 (F258 S D) :=
  SpecOK.of (c := match Tryz.f258.body with | some c => c | none => .skip) (by kernel_rfl) hS hD ⟨Tryz.func258, rfl, by decide⟩
    (.seq .n (.seq .n (.seq (.seq .n (.one (.seq .n (.dup (.seq .n .n) (.seq .n (.dup (.seq .n .n) .n)))))) (.seq .n .n)))) 2 (fun args h => by kernel_rfl)
/-- slices.ContainsFunc[[]roundhouse/api.Edge,roundhouse/api.Edge] -/
noncomputable def F259 (S : FS) (D : FD) (args : List AV) (h : Heap) : Option (Bool × AV × Heap) :=
 kv2 args fun s_1 f_2 =>
 ob (S 318 [s_1, f_2] h) fun r3 => kres r3 (fun v4 h5 =>
 ob (kbinI .geq v4 (.int .i64 (.ofNat 0))) fun v8 =>
 (some (false, v8, h5))) (fun p6 h7 => (some (true, p6, h7)))
theorem F259_ok {S : FS} {D : FD} (hS : SpecsOK Tryz.prog S) (hD : DynOK Tryz.prog D) : SpecOK Tryz.prog 259 (F259 S D) :=
  SpecOK.of (c := match Tryz.f259.body with | some c => c | none => .skip) (by kernel_rfl) hS hD ⟨Tryz.func259, rfl, by decide⟩
    (.seq .n (.seq .n .n)) 2 (fun args h => by kernel_rfl)
/-- roundhouse/sha.Of -/
noncomputable def F260 (S : FS) (D : FD) (args : List AV) (h : Heap) : Option (Bool × AV × Heap) :=
 kv1 args fun s_1 =>
 ob (kstrB s_1) fun r2 => Heap.pushK h (.cells r2.1 false 5) fun h3 =>
 ob (abuildSlice Tryz.prog 254 1 [(0, (.int .u8 (.ofNat 128)))]) fun r4 => Heap.pushK h3 (.cells r4.1 true r4.2.2) fun h5 =>
 ob (aappend Tryz.prog h5 254 254 (.slice (Heap.next h) 0 r2.2 r2.2 1) (.slice (Heap.next h3) 0 1 1 r4.2.1)) fun r6 =>
 ob (iterD (fun vs7 ds8 h9 => kv2 vs7 fun s_10 b_11 =>
  ob (klenL b_11) fun v12 =>
  ob (kbinI .rem v12 (.int .i64 (.ofNat 64))) fun v13 =>
  ob (kbinI .neq v13 (.int .i64 (.ofNat 56))) fun v14 =>
  kif v14
   (ob (abuildSlice Tryz.prog 254 1 [(0, (.int .u8 (.ofNat 0)))]) fun r15 => Heap.pushK h9 (.cells r15.1 true r15.2.2) fun h16 =>
   ob (aappend Tryz.prog h16 254 254 b_11 (.slice (Heap.next h9) 0 1 1 r15.2.1)) fun r17 =>
   (some ⟨0, [s_10, r17.1], ds8, r17.2⟩))
   ((some ⟨1, [s_10, b_11], ds8, h9⟩))) rounds [s_1, r6.1] [] r6.2) fun r18 => kcase (J.i r18) [kv2 (J.vs r18) fun s_19 b_20 =>
  ob (iterD (fun vs21 ds22 h23 => kv3 vs21 fun s_24 b_25 shift_26 =>
   ob (kbinI .geq shift_26 (.int .i64 (.ofNat 0))) fun v27 =>
   kif v27
    (ob (klenS s_24) fun v28 =>
    ob (kbinI .mul (.int .i64 (.ofNat 8)) v28) fun v29 =>
    ob (kbinI .shr v29 shift_26) fun v30 =>
    ob (kconvI .u8 v30) fun v31 =>
    ob (abuildSlice Tryz.prog 254 1 [(0, v31)]) fun r32 => Heap.pushK h23 (.cells r32.1 true r32.2.2) fun h33 =>
    ob (aappend Tryz.prog h33 254 254 b_25 (.slice (Heap.next h23) 0 1 1 r32.2.1)) fun r34 =>
    ob (kbinI .sub shift_26 (.int .i64 (.ofNat 8))) fun v35 =>
    (some ⟨0, [s_24, r34.1, v35], ds22, r34.2⟩))
    ((some ⟨1, [b_25], ds22, h23⟩))) rounds [s_19, b_20, (.int .i64 (.ofNat 56))] (J.ds r18) (J.h r18)) fun r36 => kcase (J.i r36) [kv1 (J.vs r36) fun b_37 =>
   ob (S 319 [] (J.h r36)) fun r38 => kres r38 (fun v39 h40 =>
   Heap.pushK h40 (.cells [(.int .u32 (.ofNat 0)), (.int .u32 (.ofNat 0)), (.int .u32 (.ofNat 0)), (.int .u32 (.ofNat 0)), (.int .u32 (.ofNat 0)), (.int .u32 (.ofNat 0)), (.int .u32 (.ofNat 0)), (.int .u32 (.ofNat 0))] true 431) fun h43 =>
   ob (kstore 8 (.ptr (Heap.next h40) 0) v39 h43) fun h44 =>
   ob (iterD (fun vs45 ds46 h47 => kv2 vs45 fun b_48 d_49 =>
    ob (klenL b_48) fun v50 =>
    ob (kbinI .gtr v50 (.int .i64 (.ofNat 0))) fun v51 =>
    kif v51
     (ob (aslice Tryz.prog 254 b_48 none (some (.int .i64 (.ofNat 64))) none) fun v52 =>
     ob (S 320 [d_49, v52] h47) fun r53 => kres r53 (fun v54 h55 =>
     ob (aslice Tryz.prog 254 b_48 (some (.int .i64 (.ofNat 64))) none none) fun v58 =>
     (some ⟨0, [v58, d_49], ds46, h55⟩)) (fun p56 h57 => (some ⟨2, [p56], ds46, h57⟩)))
     ((some ⟨1, [d_49], ds46, h47⟩))) rounds [b_37, (.ptr (Heap.next h40) 0)] (J.ds r36) h44) fun r59 => kcase (J.i r59) [kv1 (J.vs r59) fun d_60 =>
    ob (kloadN 8 (J.h r59) d_60) fun v61 =>
    ob (iterD (fun vs62 ds63 h64 => kv3 vs62 fun out_65 v66 v67 =>
     ob (kbinI .lss v67 (.int .i64 (.ofNat 8))) fun v68 =>
     kif v68
      (ob (kixA 8 false 1 v66 v67) fun v69 =>
      ob (kbinI .shr v69 (.int .u64 (.ofNat 24))) fun v70 =>
      ob (kconvI .u8 v70) fun v71 =>
      ob (kbinI .shr v69 (.int .u64 (.ofNat 16))) fun v72 =>
      ob (kconvI .u8 v72) fun v73 =>
      ob (kbinI .shr v69 (.int .u64 (.ofNat 8))) fun v74 =>
      ob (kconvI .u8 v74) fun v75 =>
      ob (kconvI .u8 v69) fun v76 =>
      ob (abuildSlice Tryz.prog 254 4 [(0, v71), (1, v73), (2, v75), (3, v76)]) fun r77 => Heap.pushK h64 (.cells r77.1 true r77.2.2) fun h78 =>
      ob (aappend Tryz.prog h78 254 254 out_65 (.slice (Heap.next h64) 0 4 4 r77.2.1)) fun r79 =>
      ob (kbinI .add v67 (.int .i64 (.ofNat 1))) fun v80 =>
      (some ⟨0, [r79.1, v66, v80], ds63, r79.2⟩))
      ((some ⟨1, [out_65], ds63, h64⟩))) rounds [AV.nilslice, v61, (.int .i64 (.ofNat 0))] (J.ds r59) (J.h r59)) fun r81 => kcase (J.i r81) [kv1 (J.vs r81) fun out_82 =>
     ob (kbytes (J.h r81) out_82) fun v83 =>
     (dleave (fun h84 => (some (false, v83, h84))) (J.ds r81) (J.h r81))],
   kv1 (J.vs r59) fun p85 => (kds (J.ds r59) (some (true, p85, (J.h r59))))]) (fun p41 h42 => (kds (J.ds r36) (some (true, p41, h42))))]]
theorem F260_ok {S : FS} {D : FD} (hS : SpecsOK Tryz.prog S) (hD : DynOK Tryz.prog D) : SpecOK Tryz.prog 260 (F260 S D) :=
  SpecOK.of (c := match Tryz.f260.body with | some c => c | none => .skip) (by kernel_rfl) hS hD ⟨Tryz.func260, rfl, by decide⟩
    (.seq .n (.seq .n (.seq (.one (.loop [0, 3] [(.exit 0, [0, 3])] (.seq (.seq .n (.dup .n .n)) (.one .n)))) (.seq (.seq .n (.one (.loop [0, 3, 4] [(.exit 2, [3])] (.seq (.seq .n (.dup .n .n)) (.seq (.one .n) .n))))) (.seq .n (.seq (.one (.loop [3, 5] [(.exit 4, [5]), (.pan, [])] (.seq (.seq .n (.dup .n .n)) (.seq (.one .n) .n)))) (.seq .n (.seq (.seq .n (.one (.loop [6, 42, 43] [(.exit 6, [6])] (.seq .n (.seq (.dup .n .n) (.seq (.one (.seq .n .n)) .n)))))) (.seq .n .n))))))))) 1 (fun args h => by kernel_rfl)
/-- slices.insertionSortOrdered[int] -/
noncomputable def F261 (S : FS) (D : FD) (args : List AV) (h : Heap) : Option (Bool × AV × Heap) :=
 kv3 args fun data_1 a_2 b_3 =>
 ob (kbinI .add a_2 (.int .i64 (.ofNat 1))) fun v4 =>
 ob (iterD (fun vs5 ds6 h7 => kv4 vs5 fun data_8 a_9 b_10 i_11 =>
  ob (kbinI .lss i_11 b_10) fun v12 =>
  kif v12
   (ob (iterD (fun vs13 ds14 h15 => kv5 vs13 fun data_16 a_17 b_18 i_19 j_20 =>
    ob (kbinI .gtr j_20 a_17) fun v21 =>
    ob (kgv true v21 (some data_16)) fun v22 =>
    ob (kgv true v21 (some j_20)) fun v23 =>
    ob (kgv true v21 (kia 1 v22 v23)) fun v24 =>
    ob (kgv true v21 (kload h15 v24)) fun v25 =>
    ob (kgv true v21 (some data_16)) fun v26 =>
    ob (kgv true v21 (some j_20)) fun v27 =>
    ob (kgv true v21 (kbinI .sub v27 (.int .i64 (.ofNat 1)))) fun v28 =>
    ob (kgv true v21 (kia 1 v26 v28)) fun v29 =>
    ob (kgv true v21 (kload h15 v29)) fun v30 =>
    ob (kgc true v21 h15 (S 267 [v25, v30] h15)) fun r31 => kres r31 (fun v32 h33 =>
    ob (kpick v21 v32 (.bool false)) fun v36 =>
    kif v36
     (ob (kbinI .sub j_20 (.int .i64 (.ofNat 1))) fun v37 =>
     ob (kbinI .sub j_20 (.int .i64 (.ofNat 1))) fun v38 =>
     ob (kia 1 data_16 v38) fun v39 =>
     ob (kload h33 v39) fun v40 =>
     ob (kia 1 data_16 j_20) fun v41 =>
     ob (kload h33 v41) fun v42 =>
     ob (kia 1 data_16 j_20) fun v43 =>
     ob (kstore 1 v43 v40 h33) fun h44 =>
     ob (kia 1 data_16 v37) fun v45 =>
     ob (kstore 1 v45 v42 h44) fun h46 =>
     ob (kbinI .sub j_20 (.int .i64 (.ofNat 1))) fun v47 =>
     (some ⟨0, [data_16, a_17, b_18, i_19, v47], ds14, h46⟩))
     ((some ⟨1, [data_16, a_17, b_18, i_19], ds14, h33⟩))) (fun p34 h35 => (some ⟨2, [p34], ds14, h35⟩))) rounds [data_8, a_9, b_10, i_11, i_11] ds6 h7) fun r48 => kcase (J.i r48) [kv4 (J.vs r48) fun data_49 a_50 b_51 i_52 =>
    ob (kbinI .add i_52 (.int .i64 (.ofNat 1))) fun v53 =>
    (some ⟨0, [data_49, a_50, b_51, v53], (J.ds r48), (J.h r48)⟩),
   kv1 (J.vs r48) fun p54 => (some ⟨2, [p54], (J.ds r48), (J.h r48)⟩)])
   ((some ⟨1, [], ds6, h7⟩))) rounds [data_1, a_2, b_3, v4] [] h) fun r55 => kcase (J.i r55) [kv0 (J.vs r55) ((dleave (fun h56 => (some (false, (.tuple []), h56))) (J.ds r55) (J.h r55))),
 kv1 (J.vs r55) fun p57 => (kds (J.ds r55) (some (true, p57, (J.h r55))))]
theorem F261_ok {S : FS} {D : FD} (hS : SpecsOK Tryz.prog S) (hD : DynOK Tryz.prog D) : SpecOK Tryz.prog 261 (F261 S D) :=
  SpecOK.of (c := match Tryz.f261.body with | some c => c | none => .skip) (by kernel_rfl) hS hD ⟨Tryz.func261, rfl, by decide⟩
    (.seq .n (.one (.loop [0, 1, 2, 6] [(.exit 0, []), (.pan, [])] (.seq (.seq .n (.dup .n .n)) (.seq (.one (.seq .n (.one (.loop [0, 1, 2, 6, 7] [(.exit 2, [0, 1, 2, 6]), (.pan, [])] (.seq (.seq .n (.dup .n .n)) (.seq (.one .n) .n)))))) .n))))) 3 (fun args h => by kernel_rfl)
/-- slices.heapSortOrdered[int] -/
noncomputable def F262 (S : FS) (D : FD) (args : List AV) (h : Heap) : Option (Bool × AV × Heap) :=
 kv3 args fun data_1 a_2 b_3 =>
 ob (kbinI .sub b_3 a_2) fun v4 =>
 ob (kbinI .sub v4 (.int .i64 (.ofNat 1))) fun v5 =>
 ob (kbinI .quo v5 (.int .i64 (.ofNat 2))) fun v6 =>
 ob (iterD (fun vs7 ds8 h9 => kv5 vs7 fun data_10 first_11 lo_12 hi_13 i_14 =>
  ob (kbinI .geq i_14 (.int .i64 (.ofNat 0))) fun v15 =>
  kif v15
   (ob (S 321 [data_10, i_14, hi_13, first_11] h9) fun r16 => kres r16 (fun v17 h18 =>
   ob (kbinI .sub i_14 (.int .i64 (.ofNat 1))) fun v21 =>
   (some ⟨0, [data_10, first_11, lo_12, hi_13, v21], ds8, h18⟩)) (fun p19 h20 => (some ⟨2, [p19], ds8, h20⟩)))
   ((some ⟨1, [data_10, first_11, lo_12, hi_13], ds8, h9⟩))) rounds [data_1, a_2, (.int .i64 (.ofNat 0)), v4, v6] [] h) fun r22 => kcase (J.i r22) [kv4 (J.vs r22) fun data_23 first_24 lo_25 hi_26 =>
  ob (kbinI .sub hi_26 (.int .i64 (.ofNat 1))) fun v27 =>
  ob (iterD (fun vs28 ds29 h30 => kv4 vs28 fun data_31 first_32 lo_33 i_34 =>
   ob (kbinI .geq i_34 (.int .i64 (.ofNat 0))) fun v35 =>
   kif v35
    (ob (kbinI .add first_32 i_34) fun v36 =>
    ob (kbinI .add first_32 i_34) fun v37 =>
    ob (kia 1 data_31 v37) fun v38 =>
    ob (kload h30 v38) fun v39 =>
    ob (kia 1 data_31 first_32) fun v40 =>
    ob (kload h30 v40) fun v41 =>
    ob (kia 1 data_31 first_32) fun v42 =>
    ob (kstore 1 v42 v39 h30) fun h43 =>
    ob (kia 1 data_31 v36) fun v44 =>
    ob (kstore 1 v44 v41 h43) fun h45 =>
    ob (S 321 [data_31, lo_33, i_34, first_32] h45) fun r46 => kres r46 (fun v47 h48 =>
    ob (kbinI .sub i_34 (.int .i64 (.ofNat 1))) fun v51 =>
    (some ⟨0, [data_31, first_32, lo_33, v51], ds29, h48⟩)) (fun p49 h50 => (some ⟨2, [p49], ds29, h50⟩)))
    ((some ⟨1, [], ds29, h30⟩))) rounds [data_23, first_24, lo_25, v27] (J.ds r22) (J.h r22)) fun r52 => kcase (J.i r52) [kv0 (J.vs r52) ((dleave (fun h53 => (some (false, (.tuple []), h53))) (J.ds r52) (J.h r52))),
  kv1 (J.vs r52) fun p54 => (kds (J.ds r52) (some (true, p54, (J.h r52))))],
 kv1 (J.vs r22) fun p55 => (kds (J.ds r22) (some (true, p55, (J.h r22))))]
theorem F262_ok {S : FS} {D : FD} (hS : SpecsOK Tryz.prog S) (hD : DynOK Tryz.prog D) : SpecOK Tryz.prog 262 (F262 S D) :=
  SpecOK.of (c := match Tryz.f262.body with | some c => c | none => .skip) (by kernel_rfl) hS hD ⟨Tryz.func262, rfl, by decide⟩
    (.seq .n (.seq .n (.seq .n (.seq (.seq .n (.one (.loop [0, 6, 7, 8, 9] [(.exit 0, [0, 6, 7, 8]), (.pan, [])] (.seq (.seq .n (.dup .n .n)) (.seq (.one .n) .n))))) (.seq .n (.one (.loop [0, 6, 7, 10] [(.exit 2, []), (.pan, [])] (.seq (.seq .n (.dup .n .n)) (.seq (.one (.seq .n .n)) .n))))))))) 3 (fun args h => by kernel_rfl)
/-- slices.breakPatternsOrdered[int] -/
noncomputable def F263 (S : FS) (D : FD) (args : List AV) (h : Heap) : Option (Bool × AV × Heap) :=
 kv3 args fun data_1 a_2 b_3 =>
 ob (kbinI .sub b_3 a_2) fun v4 =>
 ob (kbinI .geq v4 (.int .i64 (.ofNat 8))) fun v5 =>
 ob (kif v5
  (ob (kconvI .u64 v4) fun v7 =>
  Heap.pushK h (.cells [(.int .u64 (.ofNat 0))] true 434) fun h8 =>
  ob (kstore 1 (.ptr (Heap.next h) 0) v7 h8) fun h9 =>
  ob (S 322 [v4] h9) fun r10 => kres r10 (fun v11 h12 =>
  ob (kbinI .quo v4 (.int .i64 (.ofNat 4))) fun v15 =>
  ob (kbinI .mul v15 (.int .i64 (.ofNat 2))) fun v16 =>
  ob (kbinI .add a_2 v16) fun v17 =>
  ob (kbinI .sub v17 (.int .i64 (.ofNat 1))) fun v18 =>
  ob (iterD (fun vs19 ds20 h21 => kv6 vs19 fun data_22 a_23 length_24 random_25 modulus_26 idx_27 =>
   ob (kbinI .quo length_24 (.int .i64 (.ofNat 4))) fun v28 =>
   ob (kbinI .mul v28 (.int .i64 (.ofNat 2))) fun v29 =>
   ob (kbinI .add a_23 v29) fun v30 =>
   ob (kbinI .add v30 (.int .i64 (.ofNat 1))) fun v31 =>
   ob (kbinI .leq idx_27 v31) fun v32 =>
   kif v32
    (ob (S 323 [random_25] h21) fun r33 => kres r33 (fun v34 h35 =>
    ob (kbinI .sub modulus_26 (.int .u64 (.ofNat 1))) fun v38 =>
    ob (kbinI .and v34 v38) fun v39 =>
    ob (kconvI .i64 v39) fun v40 =>
    ob (kbinI .geq v40 length_24) fun v41 =>
    ob (kif v41
     (ob (kbinI .sub v40 length_24) fun v43 =>
     (some ⟨0, [data_22, a_23, length_24, random_25, modulus_26, idx_27, v43], ds20, h35⟩))
     ((some ⟨0, [data_22, a_23, length_24, random_25, modulus_26, idx_27, v40], ds20, h35⟩))) fun r42 => kcase (J.i r42) [kv7 (J.vs r42) fun data_44 a_45 length_46 random_47 modulus_48 idx_49 other_50 =>
     ob (kbinI .add a_45 other_50) fun v51 =>
     ob (kbinI .add a_45 other_50) fun v52 =>
     ob (kia 1 data_44 v52) fun v53 =>
     ob (kload (J.h r42) v53) fun v54 =>
     ob (kia 1 data_44 idx_49) fun v55 =>
     ob (kload (J.h r42) v55) fun v56 =>
     ob (kia 1 data_44 idx_49) fun v57 =>
     ob (kstore 1 v57 v54 (J.h r42)) fun h58 =>
     ob (kia 1 data_44 v51) fun v59 =>
     ob (kstore 1 v59 v56 h58) fun h60 =>
     ob (kbinI .add idx_49 (.int .i64 (.ofNat 1))) fun v61 =>
     (some ⟨0, [data_44, a_45, length_46, random_47, modulus_48, v61], (J.ds r42), h60⟩)]) (fun p36 h37 => (some ⟨2, [p36], ds20, h37⟩)))
    ((some ⟨1, [], ds20, h21⟩))) rounds [data_1, a_2, v4, (.ptr (Heap.next h) 0), v11, v18] [] h12) fun r62 => kcase (J.i r62) [kv0 (J.vs r62) ((some ⟨0, [], (J.ds r62), (J.h r62)⟩)),
  kv1 (J.vs r62) fun p63 => (some ⟨1, [p63], (J.ds r62), (J.h r62)⟩)]) (fun p13 h14 => (some ⟨1, [p13], [], h14⟩)))
  ((some ⟨0, [], [], h⟩))) fun r6 => kcase (J.i r6) [kv0 (J.vs r6) ((dleave (fun h64 => (some (false, (.tuple []), h64))) (J.ds r6) (J.h r6))),
 kv1 (J.vs r6) fun p65 => (kds (J.ds r6) (some (true, p65, (J.h r6))))]
theorem F263_ok {S : FS} {D : FD} (hS : SpecsOK Tryz.prog S) (hD : DynOK Tryz.prog D) : SpecOK Tryz.prog 263 (F263 S D) :=
  SpecOK.of (c := match Tryz.f263.body with | some c => c | none => .skip) (by kernel_rfl) hS hD ⟨Tryz.func263, rfl, by decide⟩
    (.seq .n (.seq .n (.join [(.norm, []), (.pan, [])] (.dup (.seq .n (.seq .n (.seq .n (.one (.loop [0, 1, 6, 7, 8, 9] [(.exit 0, []), (.pan, [])] (.seq (.seq .n (.dup .n .n)) (.seq (.one (.seq .n (.seq (.seq .n (.join [(.norm, [0, 1, 6, 7, 8, 9, 10])] (.dup .n .n))) .n))) .n))))))) .n)))) 3 (fun args h => by kernel_rfl)
/-- slices.choosePivotOrdered[int] -/
noncomputable def F264 (S : FS) (D : FD) (args : List AV) (h : Heap) : Option (Bool × AV × Heap) :=
 kv3 args fun data_1 a_2 b_3 =>
 ob (kbinI .sub b_3 a_2) fun v4 =>
 Heap.pushK h (.cells [(.int .i64 (.ofNat 0))] true 3) fun h5 =>
 ob (kbinI .quo v4 (.int .i64 (.ofNat 4))) fun v6 =>
 ob (kbinI .mul v6 (.int .i64 (.ofNat 1))) fun v7 =>
 ob (kbinI .add a_2 v7) fun v8 =>
 ob (kbinI .quo v4 (.int .i64 (.ofNat 4))) fun v9 =>
 ob (kbinI .mul v9 (.int .i64 (.ofNat 2))) fun v10 =>
 ob (kbinI .add a_2 v10) fun v11 =>
 ob (kbinI .quo v4 (.int .i64 (.ofNat 4))) fun v12 =>
 ob (kbinI .mul v12 (.int .i64 (.ofNat 3))) fun v13 =>
 ob (kbinI .add a_2 v13) fun v14 =>
 ob (kbinI .geq v4 (.int .i64 (.ofNat 8))) fun v15 =>
 ob (kif v15
  (ob (kbinI .geq v4 (.int .i64 (.ofNat 50))) fun v17 =>
  ob (kif v17
   (ob (S 324 [data_1, v8, (.ptr (Heap.next h) 0)] h5) fun r19 => kres r19 (fun v20 h21 =>
   ob (S 324 [data_1, v11, (.ptr (Heap.next h) 0)] h21) fun r24 => kres r24 (fun v25 h26 =>
   ob (S 324 [data_1, v14, (.ptr (Heap.next h) 0)] h26) fun r29 => kres r29 (fun v30 h31 =>
   (some ⟨0, [data_1, (.ptr (Heap.next h) 0), v20, v25, v30], [], h31⟩)) (fun p32 h33 => (some ⟨1, [p32], [], h33⟩))) (fun p27 h28 => (some ⟨1, [p27], [], h28⟩))) (fun p22 h23 => (some ⟨1, [p22], [], h23⟩)))
   ((some ⟨0, [data_1, (.ptr (Heap.next h) 0), v8, v11, v14], [], h5⟩))) fun r18 => kcase (J.i r18) [kv5 (J.vs r18) fun data_34 swaps_35 i_36 j_37 k_38 =>
   ob (S 325 [data_34, i_36, j_37, k_38, swaps_35] (J.h r18)) fun r39 => kres r39 (fun v40 h41 =>
   (some ⟨0, [swaps_35, v40], (J.ds r18), h41⟩)) (fun p42 h43 => (some ⟨1, [p42], (J.ds r18), h43⟩)),
  kv1 (J.vs r18) fun p44 => (some ⟨1, [p44], (J.ds r18), (J.h r18)⟩)])
  ((some ⟨0, [(.ptr (Heap.next h) 0), v11], [], h5⟩))) fun r16 => kcase (J.i r16) [kv2 (J.vs r16) fun swaps_45 j_46 =>
  ob (kload (J.h r16) swaps_45) fun v47 =>
  ob (kbinI .eql v47 (.int .i64 (.ofNat 0))) fun v48 =>
  kif v48
   ((dleave (fun h49 => (some (false, (.tuple [j_46, (.int .i64 (.ofNat 1))]), h49))) (J.ds r16) (J.h r16)))
   (ob (kbinI .eql v47 (.int .i64 (.ofNat 12))) fun v50 =>
   kif v50
    ((dleave (fun h51 => (some (false, (.tuple [j_46, (.int .i64 (.ofNat 2))]), h51))) (J.ds r16) (J.h r16)))
    ((dleave (fun h52 => (some (false, (.tuple [j_46, (.int .i64 (.ofNat 0))]), h52))) (J.ds r16) (J.h r16)))),
 kv1 (J.vs r16) fun p53 => (kds (J.ds r16) (some (true, p53, (J.h r16))))]
theorem F264_ok {S : FS} {D : FD} (hS : SpecsOK Tryz.prog S) (hD : DynOK Tryz.prog D) : SpecOK Tryz.prog 264 (F264 S D) :=
  SpecOK.of (c := match Tryz.f264.body with | some c => c | none => .skip) (by kernel_rfl) hS hD ⟨Tryz.func264, rfl, by decide⟩
    (.seq .n (.seq .n (.seq .n (.seq .n (.seq .n (.seq .n (.seq (.seq .n (.join [(.norm, [9, 11]), (.pan, [])] (.dup (.seq (.seq .n (.join [(.norm, [0, 9, 10, 11, 12]), (.pan, [])] (.dup (.seq .n (.seq .n .n)) .n))) .n) .n))) (.seq .n (.one (.seq .n (.dup (.seq .n .n) (.seq .n (.dup (.seq .n .n) (.seq .n .n)))))))))))))) 3 (fun args h => by kernel_rfl)
/-- slices.reverseRangeOrdered[int] -/
noncomputable def F265 (S : FS) (D : FD) (args : List AV) (h : Heap) : Option (Bool × AV × Heap) :=
 kv3 args fun data_1 a_2 b_3 =>
 ob (kbinI .sub b_3 (.int .i64 (.ofNat 1))) fun v4 =>
 ob (iterD (fun vs5 ds6 h7 => kv3 vs5 fun data_8 i_9 j_10 =>
  ob (kbinI .lss i_9 j_10) fun v11 =>
  kif v11
   (ob (kia 1 data_8 j_10) fun v12 =>
   ob (kload h7 v12) fun v13 =>
   ob (kia 1 data_8 i_9) fun v14 =>
   ob (kload h7 v14) fun v15 =>
   ob (kia 1 data_8 i_9) fun v16 =>
   ob (kstore 1 v16 v13 h7) fun h17 =>
   ob (kia 1 data_8 j_10) fun v18 =>
   ob (kstore 1 v18 v15 h17) fun h19 =>
   ob (kbinI .add i_9 (.int .i64 (.ofNat 1))) fun v20 =>
   ob (kbinI .sub j_10 (.int .i64 (.ofNat 1))) fun v21 =>
   (some ⟨0, [data_8, v20, v21], ds6, h19⟩))
   ((some ⟨1, [], ds6, h7⟩))) rounds [data_1, a_2, v4] [] h) fun r22 => kcase (J.i r22) [kv0 (J.vs r22) ((dleave (fun h23 => (some (false, (.tuple []), h23))) (J.ds r22) (J.h r22)))]
theorem F265_ok {S : FS} {D : FD} (hS : SpecsOK Tryz.prog S) (hD : DynOK Tryz.prog D) : SpecOK Tryz.prog 265 (F265 S D) :=
  SpecOK.of (c := match Tryz.f265.body with | some c => c | none => .skip) (by kernel_rfl) hS hD ⟨Tryz.func265, rfl, by decide⟩
    (.seq .n (.seq .n (.one (.loop [0, 6, 7] [(.exit 0, [])] (.seq (.seq .n (.dup .n .n)) (.one (.seq .n (.seq .n .n)))))))) 3 (fun args h => by kernel_rfl)
/-- slices.partialInsertionSortOrdered[int] -/
noncomputable def F266 (S : FS) (D : FD) (args : List AV) (h : Heap) : Option (Bool × AV × Heap) :=
 kv3 args fun data_1 a_2 b_3 =>
 ob (kbinI .add a_2 (.int .i64 (.ofNat 1))) fun v4 =>
 ob (iterD (fun vs5 ds6 h7 => kv5 vs5 fun data_8 a_9 b_10 i_11 j_12 =>
  ob (kbinI .lss j_12 (.int .i64 (.ofNat 5))) fun v13 =>
  kif v13
   (ob (iterD (fun vs14 ds15 h16 => kv5 vs14 fun data_17 a_18 b_19 i_20 j_21 =>
    ob (kbinI .lss i_20 b_19) fun v22 =>
    ob (kgv true v22 (some data_17)) fun v23 =>
    ob (kgv true v22 (some i_20)) fun v24 =>
    ob (kgv true v22 (kia 1 v23 v24)) fun v25 =>
    ob (kgv true v22 (kload h16 v25)) fun v26 =>
    ob (kgv true v22 (some data_17)) fun v27 =>
    ob (kgv true v22 (some i_20)) fun v28 =>
    ob (kgv true v22 (kbinI .sub v28 (.int .i64 (.ofNat 1)))) fun v29 =>
    ob (kgv true v22 (kia 1 v27 v29)) fun v30 =>
    ob (kgv true v22 (kload h16 v30)) fun v31 =>
    ob (kgc true v22 h16 (S 267 [v26, v31] h16)) fun r32 => kres r32 (fun v33 h34 =>
    ob (kgv true v22 (aun .not v33)) fun v37 =>
    ob (kpick v22 v37 (.bool false)) fun v38 =>
    kif v38
     (ob (kbinI .add i_20 (.int .i64 (.ofNat 1))) fun v39 =>
     (some ⟨0, [data_17, a_18, b_19, v39, j_21], ds15, h34⟩))
     ((some ⟨1, [data_17, a_18, b_19, i_20, j_21], ds15, h34⟩))) (fun p35 h36 => (some ⟨2, [p35], ds15, h36⟩))) rounds [data_8, a_9, b_10, i_11, j_12] ds6 h7) fun r40 => kcase (J.i r40) [kv5 (J.vs r40) fun data_41 a_42 b_43 i_44 j_45 =>
    ob (kbinI .eql i_44 b_43) fun v46 =>
    kif v46
     ((some ⟨2, [(.bool true)], (J.ds r40), (J.h r40)⟩))
     (ob (kbinI .sub b_43 a_42) fun v47 =>
     ob (kbinI .lss v47 (.int .i64 (.ofNat 50))) fun v48 =>
     kif v48
      ((some ⟨2, [(.bool false)], (J.ds r40), (J.h r40)⟩))
      (ob (kbinI .sub i_44 (.int .i64 (.ofNat 1))) fun v49 =>
      ob (kbinI .sub i_44 (.int .i64 (.ofNat 1))) fun v50 =>
      ob (kia 1 data_41 v50) fun v51 =>
      ob (kload (J.h r40) v51) fun v52 =>
      ob (kia 1 data_41 i_44) fun v53 =>
      ob (kload (J.h r40) v53) fun v54 =>
      ob (kia 1 data_41 i_44) fun v55 =>
      ob (kstore 1 v55 v52 (J.h r40)) fun h56 =>
      ob (kia 1 data_41 v49) fun v57 =>
      ob (kstore 1 v57 v54 h56) fun h58 =>
      ob (kbinI .sub i_44 a_42) fun v59 =>
      ob (kbinI .geq v59 (.int .i64 (.ofNat 2))) fun v60 =>
      ob (kif v60
       (ob (kbinI .sub i_44 (.int .i64 (.ofNat 1))) fun v62 =>
       ob (iterD (fun vs63 ds64 h65 => kv6 vs63 fun data_66 a_67 b_68 i_69 j_70 j_71 =>
        ob (kbinI .geq j_71 (.int .i64 (.ofNat 1))) fun v72 =>
        kif v72
         (ob (kia 1 data_66 j_71) fun v73 =>
         ob (kload h65 v73) fun v74 =>
         ob (kbinI .sub j_71 (.int .i64 (.ofNat 1))) fun v75 =>
         ob (kia 1 data_66 v75) fun v76 =>
         ob (kload h65 v76) fun v77 =>
         ob (S 267 [v74, v77] h65) fun r78 => kres r78 (fun v79 h80 =>
         ob (aun .not v79) fun v83 =>
         kif v83
          ((some ⟨1, [data_66, a_67, b_68, i_69, j_70], ds64, h80⟩))
          (ob (kbinI .sub j_71 (.int .i64 (.ofNat 1))) fun v84 =>
          ob (kbinI .sub j_71 (.int .i64 (.ofNat 1))) fun v85 =>
          ob (kia 1 data_66 v85) fun v86 =>
          ob (kload h80 v86) fun v87 =>
          ob (kia 1 data_66 j_71) fun v88 =>
          ob (kload h80 v88) fun v89 =>
          ob (kia 1 data_66 j_71) fun v90 =>
          ob (kstore 1 v90 v87 h80) fun h91 =>
          ob (kia 1 data_66 v84) fun v92 =>
          ob (kstore 1 v92 v89 h91) fun h93 =>
          ob (kbinI .sub j_71 (.int .i64 (.ofNat 1))) fun v94 =>
          (some ⟨0, [data_66, a_67, b_68, i_69, j_70, v94], ds64, h93⟩))) (fun p81 h82 => (some ⟨2, [p81], ds64, h82⟩)))
         ((some ⟨1, [data_66, a_67, b_68, i_69, j_70], ds64, h65⟩))) rounds [data_41, a_42, b_43, i_44, j_45, v62] (J.ds r40) h58) fun r95 => kcase (J.i r95) [kv5 (J.vs r95) fun data_96 a_97 b_98 i_99 j_100 =>
        (some ⟨0, [data_96, a_97, b_98, i_99, j_100], (J.ds r95), (J.h r95)⟩),
       kv1 (J.vs r95) fun p101 => (some ⟨1, [p101], (J.ds r95), (J.h r95)⟩)])
       ((some ⟨0, [data_41, a_42, b_43, i_44, j_45], (J.ds r40), h58⟩))) fun r61 => kcase (J.i r61) [kv5 (J.vs r61) fun data_102 a_103 b_104 i_105 j_106 =>
       ob (kbinI .sub b_104 i_105) fun v107 =>
       ob (kbinI .geq v107 (.int .i64 (.ofNat 2))) fun v108 =>
       ob (kif v108
        (ob (kbinI .add i_105 (.int .i64 (.ofNat 1))) fun v110 =>
        ob (iterD (fun vs111 ds112 h113 => kv6 vs111 fun data_114 a_115 b_116 i_117 j_118 j_119 =>
         ob (kbinI .lss j_119 b_116) fun v120 =>
         kif v120
          (ob (kia 1 data_114 j_119) fun v121 =>
          ob (kload h113 v121) fun v122 =>
          ob (kbinI .sub j_119 (.int .i64 (.ofNat 1))) fun v123 =>
          ob (kia 1 data_114 v123) fun v124 =>
          ob (kload h113 v124) fun v125 =>
          ob (S 267 [v122, v125] h113) fun r126 => kres r126 (fun v127 h128 =>
          ob (aun .not v127) fun v131 =>
          kif v131
           ((some ⟨1, [data_114, a_115, b_116, i_117, j_118], ds112, h128⟩))
           (ob (kbinI .sub j_119 (.int .i64 (.ofNat 1))) fun v132 =>
           ob (kbinI .sub j_119 (.int .i64 (.ofNat 1))) fun v133 =>
           ob (kia 1 data_114 v133) fun v134 =>
           ob (kload h128 v134) fun v135 =>
           ob (kia 1 data_114 j_119) fun v136 =>
           ob (kload h128 v136) fun v137 =>
           ob (kia 1 data_114 j_119) fun v138 =>
           ob (kstore 1 v138 v135 h128) fun h139 =>
           ob (kia 1 data_114 v132) fun v140 =>
           ob (kstore 1 v140 v137 h139) fun h141 =>
           ob (kbinI .add j_119 (.int .i64 (.ofNat 1))) fun v142 =>
           (some ⟨0, [data_114, a_115, b_116, i_117, j_118, v142], ds112, h141⟩))) (fun p129 h130 => (some ⟨2, [p129], ds112, h130⟩)))
          ((some ⟨1, [data_114, a_115, b_116, i_117, j_118], ds112, h113⟩))) rounds [data_102, a_103, b_104, i_105, j_106, v110] (J.ds r61) (J.h r61)) fun r143 => kcase (J.i r143) [kv5 (J.vs r143) fun data_144 a_145 b_146 i_147 j_148 =>
         (some ⟨0, [data_144, a_145, b_146, i_147, j_148], (J.ds r143), (J.h r143)⟩),
        kv1 (J.vs r143) fun p149 => (some ⟨1, [p149], (J.ds r143), (J.h r143)⟩)])
        ((some ⟨0, [data_102, a_103, b_104, i_105, j_106], (J.ds r61), (J.h r61)⟩))) fun r109 => kcase (J.i r109) [kv5 (J.vs r109) fun data_150 a_151 b_152 i_153 j_154 =>
        ob (kbinI .add j_154 (.int .i64 (.ofNat 1))) fun v155 =>
        (some ⟨0, [data_150, a_151, b_152, i_153, v155], (J.ds r109), (J.h r109)⟩),
       kv1 (J.vs r109) fun p156 => (some ⟨3, [p156], (J.ds r109), (J.h r109)⟩)],
      kv1 (J.vs r61) fun p157 => (some ⟨3, [p157], (J.ds r61), (J.h r61)⟩)])),
   kv1 (J.vs r40) fun p158 => (some ⟨3, [p158], (J.ds r40), (J.h r40)⟩)])
   ((some ⟨1, [], ds6, h7⟩))) rounds [data_1, a_2, b_3, v4, (.int .i64 (.ofNat 0))] [] h) fun r159 => kcase (J.i r159) [kv0 (J.vs r159) ((dleave (fun h160 => (some (false, (.bool false), h160))) (J.ds r159) (J.h r159))),
 kv1 (J.vs r159) fun v161 =>
  (dleave (fun h162 => (some (false, v161, h162))) (J.ds r159) (J.h r159)),
 kv1 (J.vs r159) fun p163 => (kds (J.ds r159) (some (true, p163, (J.h r159))))]
theorem F266_ok {S : FS} {D : FD} (hS : SpecsOK Tryz.prog S) (hD : DynOK Tryz.prog D) : SpecOK Tryz.prog 266 (F266 S D) :=
  SpecOK.of (c := match Tryz.f266.body with | some c => c | none => .skip) (by kernel_rfl) hS hD ⟨Tryz.func266, rfl, by decide⟩
    (.seq .n (.seq .n (.seq (.seq .n (.one (.loop [0, 1, 2, 7, 8] [(.exit 0, []), (.ret, [6]), (.pan, [])] (.seq (.seq .n (.dup .n .n)) (.seq (.one (.seq (.one (.loop [0, 1, 2, 7, 8] [(.exit 2, [0, 1, 2, 7, 8]), (.pan, [])] (.seq (.seq .n (.dup .n .n)) (.one .n)))) (.seq (.seq .n (.dup (.seq .n .n) .n)) (.seq (.seq .n (.dup (.seq .n .n) .n)) (.seq .n (.seq (.seq .n (.join [(.norm, [0, 1, 2, 7, 8]), (.pan, [])] (.dup (.seq .n (.one (.loop [0, 1, 2, 7, 8, 9] [(.exit 4, [0, 1, 2, 7, 8]), (.pan, [])] (.seq (.seq .n (.dup .n .n)) (.seq (.one (.seq (.seq .n (.dup .n .n)) .n)) .n))))) .n))) (.seq .n (.join [(.norm, [0, 1, 2, 7, 8]), (.pan, [])] (.dup (.seq .n (.one (.loop [0, 1, 2, 7, 8, 10] [(.exit 6, [0, 1, 2, 7, 8]), (.pan, [])] (.seq (.seq .n (.dup .n .n)) (.seq (.one (.seq (.seq .n (.dup .n .n)) .n)) .n))))) .n))))))))) .n))))) (.seq .n .n)))) 3 (fun args h => by kernel_rfl)
end Go.Rh.Tryz
