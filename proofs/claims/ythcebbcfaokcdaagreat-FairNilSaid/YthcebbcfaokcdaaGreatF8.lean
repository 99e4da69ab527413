/- Printed by wip/tools/gen.py: functions of the program as plain functions over abstract values, each with its proof. -/
import Derived.Test.YthcebbcfaokcdaaGreatProg
import Derived.Test.YthcebbcfaokcdaaGreatRh3
set_option maxRecDepth 1000000
set_option linter.unusedVariables false
namespace Go.Rh.Tryz
open Go.Proofs
/-- cmp.Less[int] -/
noncomputable def F267 (S : FS) (D : FD) (args : List AV) (h : Heap) : Option (Bool × AV × Heap) :=
 kv2 args fun x_1 y_2 =>
 ob (S 326 [x_1] h) fun r3 => kres r3 (fun v4 h5 =>
 ob (kgv true v4 (some y_2)) fun v8 =>
 ob (kgc true v4 h5 (S 326 [v8] h5)) fun r9 => kres r9 (fun v10 h11 =>
 ob (kgv true v4 (aun .not v10)) fun v14 =>
 ob (kpick v4 v14 (.bool false)) fun v15 =>
 ob (kgv false v15 (some x_1)) fun v16 =>
 ob (kgv false v15 (some y_2)) fun v17 =>
 ob (kgv false v15 (kbinI .lss v16 v17)) fun v18 =>
 ob (kpick v15 (.bool true) v18) fun v19 =>
 (some (false, v19, h11))) (fun p12 h13 => (some (true, p12, h13)))) (fun p6 h7 => (some (true, p6, h7)))
theorem F267_ok {S : FS} {D : FD} (hS : SpecsOK Tryz.prog S) (hD : DynOK Tryz.prog D) : SpecOK Tryz.prog 267 (F267 S D) :=
  SpecOK.of (c := match Tryz.f267.body with | some c => c | none => .skip) (by kernel_rfl) hS hD ⟨Tryz.func267, rfl, by decide⟩
    (.seq .n (.seq .n .n)) 2 (fun args h => by kernel_rfl)
/-- slices.partitionEqualOrdered[int] -/
noncomputable def F268 (S : FS) (D : FD) (args : List AV) (h : Heap) : Option (Bool × AV × Heap) :=
 kv4 args fun data_1 a_2 b_3 pivot_4 =>
 ob (kia 1 data_1 pivot_4) fun v5 =>
 ob (kload h v5) fun v6 =>
 ob (kia 1 data_1 a_2) fun v7 =>
 ob (kload h v7) fun v8 =>
 ob (kia 1 data_1 a_2) fun v9 =>
 ob (kstore 1 v9 v6 h) fun h10 =>
 ob (kia 1 data_1 pivot_4) fun v11 =>
 ob (kstore 1 v11 v8 h10) fun h12 =>
 ob (kbinI .add a_2 (.int .i64 (.ofNat 1))) fun v13 =>
 ob (kbinI .sub b_3 (.int .i64 (.ofNat 1))) fun v14 =>
 ob (iterD (fun vs15 ds16 h17 => kv4 vs15 fun data_18 a_19 i_20 j_21 =>
  ob (iterD (fun vs22 ds23 h24 => kv4 vs22 fun data_25 a_26 i_27 j_28 =>
   ob (kbinI .leq i_27 j_28) fun v29 =>
   ob (kgv true v29 (some data_25)) fun v30 =>
   ob (kgv true v29 (some a_26)) fun v31 =>
   ob (kgv true v29 (kia 1 v30 v31)) fun v32 =>
   ob (kgv true v29 (kload h24 v32)) fun v33 =>
   ob (kgv true v29 (some data_25)) fun v34 =>
   ob (kgv true v29 (some i_27)) fun v35 =>
   ob (kgv true v29 (kia 1 v34 v35)) fun v36 =>
   ob (kgv true v29 (kload h24 v36)) fun v37 =>
   ob (kgc true v29 h24 (S 267 [v33, v37] h24)) fun r38 => kres r38 (fun v39 h40 =>
   ob (kgv true v29 (aun .not v39)) fun v43 =>
   ob (kpick v29 v43 (.bool false)) fun v44 =>
   kif v44
    (ob (kbinI .add i_27 (.int .i64 (.ofNat 1))) fun v45 =>
    (some ⟨0, [data_25, a_26, v45, j_28], ds23, h40⟩))
    ((some ⟨1, [data_25, a_26, i_27, j_28], ds23, h40⟩))) (fun p41 h42 => (some ⟨2, [p41], ds23, h42⟩))) rounds [data_18, a_19, i_20, j_21] ds16 h17) fun r46 => kcase (J.i r46) [kv4 (J.vs r46) fun data_47 a_48 i_49 j_50 =>
   ob (iterD (fun vs51 ds52 h53 => kv4 vs51 fun data_54 a_55 i_56 j_57 =>
    ob (kbinI .leq i_56 j_57) fun v58 =>
    ob (kgv true v58 (some data_54)) fun v59 =>
    ob (kgv true v58 (some a_55)) fun v60 =>
    ob (kgv true v58 (kia 1 v59 v60)) fun v61 =>
    ob (kgv true v58 (kload h53 v61)) fun v62 =>
    ob (kgv true v58 (some data_54)) fun v63 =>
    ob (kgv true v58 (some j_57)) fun v64 =>
    ob (kgv true v58 (kia 1 v63 v64)) fun v65 =>
    ob (kgv true v58 (kload h53 v65)) fun v66 =>
    ob (kgc true v58 h53 (S 267 [v62, v66] h53)) fun r67 => kres r67 (fun v68 h69 =>
    ob (kpick v58 v68 (.bool false)) fun v72 =>
    kif v72
     (ob (kbinI .sub j_57 (.int .i64 (.ofNat 1))) fun v73 =>
     (some ⟨0, [data_54, a_55, i_56, v73], ds52, h69⟩))
     ((some ⟨1, [data_54, a_55, i_56, j_57], ds52, h69⟩))) (fun p70 h71 => (some ⟨2, [p70], ds52, h71⟩))) rounds [data_47, a_48, i_49, j_50] (J.ds r46) (J.h r46)) fun r74 => kcase (J.i r74) [kv4 (J.vs r74) fun data_75 a_76 i_77 j_78 =>
    ob (kbinI .gtr i_77 j_78) fun v79 =>
    kif v79
     ((some ⟨1, [i_77], (J.ds r74), (J.h r74)⟩))
     (ob (kia 1 data_75 j_78) fun v80 =>
     ob (kload (J.h r74) v80) fun v81 =>
     ob (kia 1 data_75 i_77) fun v82 =>
     ob (kload (J.h r74) v82) fun v83 =>
     ob (kia 1 data_75 i_77) fun v84 =>
     ob (kstore 1 v84 v81 (J.h r74)) fun h85 =>
     ob (kia 1 data_75 j_78) fun v86 =>
     ob (kstore 1 v86 v83 h85) fun h87 =>
     ob (kbinI .add i_77 (.int .i64 (.ofNat 1))) fun v88 =>
     ob (kbinI .sub j_78 (.int .i64 (.ofNat 1))) fun v89 =>
     (some ⟨0, [data_75, a_76, v88, v89], (J.ds r74), h87⟩)),
   kv1 (J.vs r74) fun p90 => (some ⟨2, [p90], (J.ds r74), (J.h r74)⟩)],
  kv1 (J.vs r46) fun p91 => (some ⟨2, [p91], (J.ds r46), (J.h r46)⟩)]) rounds [data_1, a_2, v13, v14] [] h12) fun r92 => kcase (J.i r92) [kv1 (J.vs r92) fun i_93 =>
  (dleave (fun h94 => (some (false, i_93, h94))) (J.ds r92) (J.h r92)),
 kv1 (J.vs r92) fun p95 => (kds (J.ds r92) (some (true, p95, (J.h r92))))]
theorem F268_ok {S : FS} {D : FD} (hS : SpecsOK Tryz.prog S) (hD : DynOK Tryz.prog D) : SpecOK Tryz.prog 268 (F268 S D) :=
  SpecOK.of (c := match Tryz.f268.body with | some c => c | none => .skip) (by kernel_rfl) hS hD ⟨Tryz.func268, rfl, by decide⟩
    (.seq .n (.seq .n (.seq .n (.seq (.one (.loop [0, 1, 9, 10] [(.exit 0, [9]), (.pan, [])] (.one (.seq (.one (.loop [0, 1, 9, 10] [(.exit 2, [0, 1, 9, 10]), (.pan, [])] (.seq (.seq .n (.dup .n .n)) (.one .n)))) (.seq (.one (.loop [0, 1, 9, 10] [(.exit 4, [0, 1, 9, 10]), (.pan, [])] (.seq (.seq .n (.dup .n .n)) (.one .n)))) (.seq (.seq .n (.dup .n .n)) (.seq .n (.seq .n .n)))))))) (.seq .n .n))))) 4 (fun args h => by kernel_rfl)
/-- slices.partitionOrdered[int] -/
noncomputable def F269 (S : FS) (D : FD) (args : List AV) (h : Heap) : Option (Bool × AV × Heap) :=
 kv4 args fun data_1 a_2 b_3 pivot_4 =>
 ob (kia 1 data_1 pivot_4) fun v5 =>
 ob (kload h v5) fun v6 =>
 ob (kia 1 data_1 a_2) fun v7 =>
 ob (kload h v7) fun v8 =>
 ob (kia 1 data_1 a_2) fun v9 =>
 ob (kstore 1 v9 v6 h) fun h10 =>
 ob (kia 1 data_1 pivot_4) fun v11 =>
 ob (kstore 1 v11 v8 h10) fun h12 =>
 ob (kbinI .add a_2 (.int .i64 (.ofNat 1))) fun v13 =>
 ob (kbinI .sub b_3 (.int .i64 (.ofNat 1))) fun v14 =>
 ob (iterD (fun vs15 ds16 h17 => kv4 vs15 fun data_18 a_19 i_20 j_21 =>
  ob (kbinI .leq i_20 j_21) fun v22 =>
  ob (kgv true v22 (some data_18)) fun v23 =>
  ob (kgv true v22 (some i_20)) fun v24 =>
  ob (kgv true v22 (kia 1 v23 v24)) fun v25 =>
  ob (kgv true v22 (kload h17 v25)) fun v26 =>
  ob (kgv true v22 (some data_18)) fun v27 =>
  ob (kgv true v22 (some a_19)) fun v28 =>
  ob (kgv true v22 (kia 1 v27 v28)) fun v29 =>
  ob (kgv true v22 (kload h17 v29)) fun v30 =>
  ob (kgc true v22 h17 (S 267 [v26, v30] h17)) fun r31 => kres r31 (fun v32 h33 =>
  ob (kpick v22 v32 (.bool false)) fun v36 =>
  kif v36
   (ob (kbinI .add i_20 (.int .i64 (.ofNat 1))) fun v37 =>
   (some ⟨0, [data_18, a_19, v37, j_21], ds16, h33⟩))
   ((some ⟨1, [data_18, a_19, i_20, j_21], ds16, h33⟩))) (fun p34 h35 => (some ⟨2, [p34], ds16, h35⟩))) rounds [data_1, a_2, v13, v14] [] h12) fun r38 => kcase (J.i r38) [kv4 (J.vs r38) fun data_39 a_40 i_41 j_42 =>
  ob (iterD (fun vs43 ds44 h45 => kv4 vs43 fun data_46 a_47 i_48 j_49 =>
   ob (kbinI .leq i_48 j_49) fun v50 =>
   ob (kgv true v50 (some data_46)) fun v51 =>
   ob (kgv true v50 (some j_49)) fun v52 =>
   ob (kgv true v50 (kia 1 v51 v52)) fun v53 =>
   ob (kgv true v50 (kload h45 v53)) fun v54 =>
   ob (kgv true v50 (some data_46)) fun v55 =>
   ob (kgv true v50 (some a_47)) fun v56 =>
   ob (kgv true v50 (kia 1 v55 v56)) fun v57 =>
   ob (kgv true v50 (kload h45 v57)) fun v58 =>
   ob (kgc true v50 h45 (S 267 [v54, v58] h45)) fun r59 => kres r59 (fun v60 h61 =>
   ob (kgv true v50 (aun .not v60)) fun v64 =>
   ob (kpick v50 v64 (.bool false)) fun v65 =>
   kif v65
    (ob (kbinI .sub j_49 (.int .i64 (.ofNat 1))) fun v66 =>
    (some ⟨0, [data_46, a_47, i_48, v66], ds44, h61⟩))
    ((some ⟨1, [data_46, a_47, i_48, j_49], ds44, h61⟩))) (fun p62 h63 => (some ⟨2, [p62], ds44, h63⟩))) rounds [data_39, a_40, i_41, j_42] (J.ds r38) (J.h r38)) fun r67 => kcase (J.i r67) [kv4 (J.vs r67) fun data_68 a_69 i_70 j_71 =>
   ob (kbinI .gtr i_70 j_71) fun v72 =>
   kif v72
    (ob (kia 1 data_68 a_69) fun v73 =>
    ob (kload (J.h r67) v73) fun v74 =>
    ob (kia 1 data_68 j_71) fun v75 =>
    ob (kload (J.h r67) v75) fun v76 =>
    ob (kia 1 data_68 j_71) fun v77 =>
    ob (kstore 1 v77 v74 (J.h r67)) fun h78 =>
    ob (kia 1 data_68 a_69) fun v79 =>
    ob (kstore 1 v79 v76 h78) fun h80 =>
    (dleave (fun h81 => (some (false, (.tuple [j_71, (.bool true)]), h81))) (J.ds r67) h80))
    (ob (kia 1 data_68 j_71) fun v82 =>
    ob (kload (J.h r67) v82) fun v83 =>
    ob (kia 1 data_68 i_70) fun v84 =>
    ob (kload (J.h r67) v84) fun v85 =>
    ob (kia 1 data_68 i_70) fun v86 =>
    ob (kstore 1 v86 v83 (J.h r67)) fun h87 =>
    ob (kia 1 data_68 j_71) fun v88 =>
    ob (kstore 1 v88 v85 h87) fun h89 =>
    ob (kbinI .add i_70 (.int .i64 (.ofNat 1))) fun v90 =>
    ob (kbinI .sub j_71 (.int .i64 (.ofNat 1))) fun v91 =>
    ob (iterD (fun vs92 ds93 h94 => kv4 vs92 fun data_95 a_96 i_97 j_98 =>
     ob (iterD (fun vs99 ds100 h101 => kv4 vs99 fun data_102 a_103 i_104 j_105 =>
      ob (kbinI .leq i_104 j_105) fun v106 =>
      ob (kgv true v106 (some data_102)) fun v107 =>
      ob (kgv true v106 (some i_104)) fun v108 =>
      ob (kgv true v106 (kia 1 v107 v108)) fun v109 =>
      ob (kgv true v106 (kload h101 v109)) fun v110 =>
      ob (kgv true v106 (some data_102)) fun v111 =>
      ob (kgv true v106 (some a_103)) fun v112 =>
      ob (kgv true v106 (kia 1 v111 v112)) fun v113 =>
      ob (kgv true v106 (kload h101 v113)) fun v114 =>
      ob (kgc true v106 h101 (S 267 [v110, v114] h101)) fun r115 => kres r115 (fun v116 h117 =>
      ob (kpick v106 v116 (.bool false)) fun v120 =>
      kif v120
       (ob (kbinI .add i_104 (.int .i64 (.ofNat 1))) fun v121 =>
       (some ⟨0, [data_102, a_103, v121, j_105], ds100, h117⟩))
       ((some ⟨1, [data_102, a_103, i_104, j_105], ds100, h117⟩))) (fun p118 h119 => (some ⟨2, [p118], ds100, h119⟩))) rounds [data_95, a_96, i_97, j_98] ds93 h94) fun r122 => kcase (J.i r122) [kv4 (J.vs r122) fun data_123 a_124 i_125 j_126 =>
      ob (iterD (fun vs127 ds128 h129 => kv4 vs127 fun data_130 a_131 i_132 j_133 =>
       ob (kbinI .leq i_132 j_133) fun v134 =>
       ob (kgv true v134 (some data_130)) fun v135 =>
       ob (kgv true v134 (some j_133)) fun v136 =>
       ob (kgv true v134 (kia 1 v135 v136)) fun v137 =>
       ob (kgv true v134 (kload h129 v137)) fun v138 =>
       ob (kgv true v134 (some data_130)) fun v139 =>
       ob (kgv true v134 (some a_131)) fun v140 =>
       ob (kgv true v134 (kia 1 v139 v140)) fun v141 =>
       ob (kgv true v134 (kload h129 v141)) fun v142 =>
       ob (kgc true v134 h129 (S 267 [v138, v142] h129)) fun r143 => kres r143 (fun v144 h145 =>
       ob (kgv true v134 (aun .not v144)) fun v148 =>
       ob (kpick v134 v148 (.bool false)) fun v149 =>
       kif v149
        (ob (kbinI .sub j_133 (.int .i64 (.ofNat 1))) fun v150 =>
        (some ⟨0, [data_130, a_131, i_132, v150], ds128, h145⟩))
        ((some ⟨1, [data_130, a_131, i_132, j_133], ds128, h145⟩))) (fun p146 h147 => (some ⟨2, [p146], ds128, h147⟩))) rounds [data_123, a_124, i_125, j_126] (J.ds r122) (J.h r122)) fun r151 => kcase (J.i r151) [kv4 (J.vs r151) fun data_152 a_153 i_154 j_155 =>
       ob (kbinI .gtr i_154 j_155) fun v156 =>
       kif v156
        ((some ⟨1, [data_152, a_153, j_155], (J.ds r151), (J.h r151)⟩))
        (ob (kia 1 data_152 j_155) fun v157 =>
        ob (kload (J.h r151) v157) fun v158 =>
        ob (kia 1 data_152 i_154) fun v159 =>
        ob (kload (J.h r151) v159) fun v160 =>
        ob (kia 1 data_152 i_154) fun v161 =>
        ob (kstore 1 v161 v158 (J.h r151)) fun h162 =>
        ob (kia 1 data_152 j_155) fun v163 =>
        ob (kstore 1 v163 v160 h162) fun h164 =>
        ob (kbinI .add i_154 (.int .i64 (.ofNat 1))) fun v165 =>
        ob (kbinI .sub j_155 (.int .i64 (.ofNat 1))) fun v166 =>
        (some ⟨0, [data_152, a_153, v165, v166], (J.ds r151), h164⟩)),
      kv1 (J.vs r151) fun p167 => (some ⟨2, [p167], (J.ds r151), (J.h r151)⟩)],
     kv1 (J.vs r122) fun p168 => (some ⟨2, [p168], (J.ds r122), (J.h r122)⟩)]) rounds [data_68, a_69, v90, v91] (J.ds r67) h89) fun r169 => kcase (J.i r169) [kv3 (J.vs r169) fun data_170 a_171 j_172 =>
     ob (kia 1 data_170 a_171) fun v173 =>
     ob (kload (J.h r169) v173) fun v174 =>
     ob (kia 1 data_170 j_172) fun v175 =>
     ob (kload (J.h r169) v175) fun v176 =>
     ob (kia 1 data_170 j_172) fun v177 =>
     ob (kstore 1 v177 v174 (J.h r169)) fun h178 =>
     ob (kia 1 data_170 a_171) fun v179 =>
     ob (kstore 1 v179 v176 h178) fun h180 =>
     (dleave (fun h181 => (some (false, (.tuple [j_172, (.bool false)]), h181))) (J.ds r169) h180),
    kv1 (J.vs r169) fun p182 => (kds (J.ds r169) (some (true, p182, (J.h r169))))]),
  kv1 (J.vs r67) fun p183 => (kds (J.ds r67) (some (true, p183, (J.h r67))))],
 kv1 (J.vs r38) fun p184 => (kds (J.ds r38) (some (true, p184, (J.h r38))))]
theorem F269_ok {S : FS} {D : FD} (hS : SpecsOK Tryz.prog S) (hD : DynOK Tryz.prog D) : SpecOK Tryz.prog 269 (F269 S D) :=
  SpecOK.of (c := match Tryz.f269.body with | some c => c | none => .skip) (by kernel_rfl) hS hD ⟨Tryz.func269, rfl, by decide⟩
    (.seq .n (.seq .n (.seq .n (.seq (.one (.loop [0, 1, 10, 11] [(.exit 0, [0, 1, 10, 11]), (.pan, [])] (.seq (.seq .n (.dup .n .n)) (.one .n)))) (.seq (.one (.loop [0, 1, 10, 11] [(.exit 2, [0, 1, 10, 11]), (.pan, [])] (.seq (.seq .n (.dup .n .n)) (.one .n)))) (.seq (.seq .n (.dup (.seq .n (.seq .n .n)) .n)) (.seq .n (.seq .n (.seq .n (.seq (.one (.loop [0, 1, 10, 11] [(.exit 4, [0, 1, 11]), (.pan, [])] (.one (.seq (.one (.loop [0, 1, 10, 11] [(.exit 6, [0, 1, 10, 11]), (.pan, [])] (.seq (.seq .n (.dup .n .n)) (.one .n)))) (.seq (.one (.loop [0, 1, 10, 11] [(.exit 8, [0, 1, 10, 11]), (.pan, [])] (.seq (.seq .n (.dup .n .n)) (.one .n)))) (.seq (.seq .n (.dup .n .n)) (.seq .n (.seq .n .n)))))))) (.seq .n (.seq .n .n)))))))))))) 4 (fun args h => by kernel_rfl)
/-- math/bits.Len32 -/
noncomputable def F270 (S : FS) (D : FD) (args : List AV) (h : Heap) : Option (Bool × AV × Heap) :=
 kv1 args fun x_1 =>
 ob (kbinI .geq x_1 (.int .u32 (.ofNat 65536))) fun v2 =>
 ob (kif v2
  (ob (kbinI .shr x_1 (.int .u64 (.ofNat 16))) fun v4 =>
  (some ⟨0, [v4, (.int .i64 (.ofNat 16))], [], h⟩))
  ((some ⟨0, [x_1, (.int .i64 (.ofNat 0))], [], h⟩))) fun r3 => kcase (J.i r3) [kv2 (J.vs r3) fun x_5 n_6 =>
  ob (kbinI .geq x_5 (.int .u32 (.ofNat 256))) fun v7 =>
  ob (kif v7
   (ob (kbinI .shr x_5 (.int .u64 (.ofNat 8))) fun v9 =>
   ob (kbinI .add n_6 (.int .i64 (.ofNat 8))) fun v10 =>
   (some ⟨0, [v9, v10], (J.ds r3), (J.h r3)⟩))
   ((some ⟨0, [x_5, n_6], (J.ds r3), (J.h r3)⟩))) fun r8 => kcase (J.i r8) [kv2 (J.vs r8) fun x_11 n_12 =>
   ob (kconvI .u8 x_11) fun v13 =>
   ob (kixS (.str 256 1013866857139168856493015739252390649739422828853819106890363778118420553376247557433637691341895324351018602695588957474325319502760499485336098898398377509666851054660423406800006203933793007272033180812049178612605246075062580585469430410618860250057463399279570354286669047577758927328864388992123306212451509403152394148136105363817402562688186708175358218852349079190158732807302672745370040257219644697201681238697346923541678507645485296520536209706771857694240900605172937619415410180424934769249448772944216470541052485265558808433676546390051204254346932932316488017972311616136051587427851453983453479168) v13) fun v14 =>
   ob (kconvI .i64 v14) fun v15 =>
   ob (kbinI .add n_12 v15) fun v16 =>
   (dleave (fun h17 => (some (false, v16, h17))) (J.ds r8) (J.h r8))]]
theorem F270_ok {S : FS} {D : FD} (hS : SpecsOK Tryz.prog S) (hD : DynOK Tryz.prog D) : SpecOK Tryz.prog 270 (F270 S D) :=
  SpecOK.of (c := match Tryz.f270.body with | some c => c | none => .skip) (by kernel_rfl) hS hD ⟨Tryz.func270, rfl, by decide⟩
    (.seq .n (.seq (.seq .n (.join [(.norm, [0, 2])] (.dup (.seq .n .n) .n))) (.seq (.seq .n (.join [(.norm, [0, 2])] (.dup (.seq .n .n) .n))) (.seq .n .n)))) 1 (fun args h => by kernel_rfl)
/-- math/bits.Len64 -/
noncomputable def F271 (S : FS) (D : FD) (args : List AV) (h : Heap) : Option (Bool × AV × Heap) :=
 kv1 args fun x_1 =>
 ob (kbinI .geq x_1 (.int .u64 (.ofNat 4294967296))) fun v2 =>
 ob (kif v2
  (ob (kbinI .shr x_1 (.int .u64 (.ofNat 32))) fun v4 =>
  (some ⟨0, [v4, (.int .i64 (.ofNat 32))], [], h⟩))
  ((some ⟨0, [x_1, (.int .i64 (.ofNat 0))], [], h⟩))) fun r3 => kcase (J.i r3) [kv2 (J.vs r3) fun x_5 n_6 =>
  ob (kbinI .geq x_5 (.int .u64 (.ofNat 65536))) fun v7 =>
  ob (kif v7
   (ob (kbinI .shr x_5 (.int .u64 (.ofNat 16))) fun v9 =>
   ob (kbinI .add n_6 (.int .i64 (.ofNat 16))) fun v10 =>
   (some ⟨0, [v9, v10], (J.ds r3), (J.h r3)⟩))
   ((some ⟨0, [x_5, n_6], (J.ds r3), (J.h r3)⟩))) fun r8 => kcase (J.i r8) [kv2 (J.vs r8) fun x_11 n_12 =>
   ob (kbinI .geq x_11 (.int .u64 (.ofNat 256))) fun v13 =>
   ob (kif v13
    (ob (kbinI .shr x_11 (.int .u64 (.ofNat 8))) fun v15 =>
    ob (kbinI .add n_12 (.int .i64 (.ofNat 8))) fun v16 =>
    (some ⟨0, [v15, v16], (J.ds r8), (J.h r8)⟩))
    ((some ⟨0, [x_11, n_12], (J.ds r8), (J.h r8)⟩))) fun r14 => kcase (J.i r14) [kv2 (J.vs r14) fun x_17 n_18 =>
    ob (kconvI .u8 x_17) fun v19 =>
    ob (kixS (.str 256 1013866857139168856493015739252390649739422828853819106890363778118420553376247557433637691341895324351018602695588957474325319502760499485336098898398377509666851054660423406800006203933793007272033180812049178612605246075062580585469430410618860250057463399279570354286669047577758927328864388992123306212451509403152394148136105363817402562688186708175358218852349079190158732807302672745370040257219644697201681238697346923541678507645485296520536209706771857694240900605172937619415410180424934769249448772944216470541052485265558808433676546390051204254346932932316488017972311616136051587427851453983453479168) v19) fun v20 =>
    ob (kconvI .i64 v20) fun v21 =>
    ob (kbinI .add n_18 v21) fun v22 =>
    (dleave (fun h23 => (some (false, v22, h23))) (J.ds r14) (J.h r14))]]]
theorem F271_ok {S : FS} {D : FD} (hS : SpecsOK Tryz.prog S) (hD : DynOK Tryz.prog D) : SpecOK Tryz.prog 271 (F271 S D) :=
  SpecOK.of (c := match Tryz.f271.body with | some c => c | none => .skip) (by kernel_rfl) hS hD ⟨Tryz.func271, rfl, by decide⟩
    (.seq .n (.seq (.seq .n (.join [(.norm, [0, 2])] (.dup (.seq .n .n) .n))) (.seq (.seq .n (.join [(.norm, [0, 2])] (.dup (.seq .n .n) .n))) (.seq (.seq .n (.join [(.norm, [0, 2])] (.dup (.seq .n .n) .n))) (.seq .n .n))))) 1 (fun args h => by kernel_rfl)
/-- math/bits.Mul32 -/
noncomputable def F272 (S : FS) (D : FD) (args : List AV) (h : Heap) : Option (Bool × AV × Heap) :=
 kv2 args fun x_1 y_2 =>
 ob (kconvI .u64 x_1) fun v3 =>
 ob (kconvI .u64 y_2) fun v4 =>
 ob (kbinI .mul v3 v4) fun v5 =>
 ob (kbinI .shr v5 (.int .u64 (.ofNat 32))) fun v6 =>
 ob (kconvI .u32 v6) fun v7 =>
 ob (kconvI .u32 v5) fun v8 =>
 (some (false, (.tuple [v7, v8]), h))
theorem F272_ok {S : FS} {D : FD} (hS : SpecsOK Tryz.prog S) (hD : DynOK Tryz.prog D) : SpecOK Tryz.prog 272 (F272 S D) :=
  SpecOK.of (c := match Tryz.f272.body with | some c => c | none => .skip) (by kernel_rfl) hS hD ⟨Tryz.func272, rfl, by decide⟩
    (.seq .n (.seq .n (.seq .n .n))) 2 (fun args h => by kernel_rfl)
/-- math/bits.Mul64 -/
noncomputable def F273 (S : FS) (D : FD) (args : List AV) (h : Heap) : Option (Bool × AV × Heap) :=
 kv2 args fun x_1 y_2 =>
 ob (kbinI .and x_1 (.int .u64 (.ofNat 4294967295))) fun v3 =>
 ob (kbinI .shr x_1 (.int .u64 (.ofNat 32))) fun v4 =>
 ob (kbinI .and y_2 (.int .u64 (.ofNat 4294967295))) fun v5 =>
 ob (kbinI .shr y_2 (.int .u64 (.ofNat 32))) fun v6 =>
 ob (kbinI .mul v3 v5) fun v7 =>
 ob (kbinI .mul v4 v5) fun v8 =>
 ob (kbinI .shr v7 (.int .u64 (.ofNat 32))) fun v9 =>
 ob (kbinI .add v8 v9) fun v10 =>
 ob (kbinI .and v10 (.int .u64 (.ofNat 4294967295))) fun v11 =>
 ob (kbinI .shr v10 (.int .u64 (.ofNat 32))) fun v12 =>
 ob (kbinI .mul v3 v6) fun v13 =>
 ob (kbinI .add v11 v13) fun v14 =>
 ob (kbinI .mul v4 v6) fun v15 =>
 ob (kbinI .add v15 v12) fun v16 =>
 ob (kbinI .shr v14 (.int .u64 (.ofNat 32))) fun v17 =>
 ob (kbinI .add v16 v17) fun v18 =>
 ob (kbinI .mul x_1 y_2) fun v19 =>
 (some (false, (.tuple [v18, v19]), h))
theorem F273_ok {S : FS} {D : FD} (hS : SpecsOK Tryz.prog S) (hD : DynOK Tryz.prog D) : SpecOK Tryz.prog 273 (F273 S D) :=
  SpecOK.of (c := match Tryz.f273.body with | some c => c | none => .skip) (by kernel_rfl) hS hD ⟨Tryz.func273, rfl, by decide⟩
    (.seq .n (.seq .n (.seq .n (.seq .n (.seq .n (.seq .n (.seq .n (.seq .n (.seq .n (.seq .n (.seq .n (.seq .n .n)))))))))))) 2 (fun args h => by kernel_rfl)
/-- (*roundhouse/ctl.job).without$1 -/
noncomputable def F274 (S : FS) (D : FD) (args : List AV) (h : Heap) : Option (Bool × AV × Heap) :=
 kv2 args fun n_1 v2 =>
 ob (kload h v2) fun v3 =>
 ob (alookup Tryz.prog h 79 v3 n_1 true) fun v4 =>
 ob (aextract v4 0) fun v5 =>
 ob (aextract v4 1) fun v6 =>
 (some (false, v6, h))
theorem F274_ok {S : FS} {D : FD} (hS : SpecsOK Tryz.prog S) (hD : DynOK Tryz.prog D) : SpecOK Tryz.prog 274 (F274 S D) :=
  SpecOK.of (c := match Tryz.f274.body with | some c => c | none => .skip) (by kernel_rfl) hS hD ⟨Tryz.func274, rfl, by decide⟩
    (.seq .n (.seq .n (.seq .n .n))) 2 (fun args h => by kernel_rfl)
/-- roundhouse/agent.Pack -/
noncomputable def F275 (S : FS) (D : FD) (args : List AV) (h : Heap) : Option (Bool × AV × Heap) :=
 kv1 args fun o_1 =>
 knt o_1 (Heap.pushK h (.cells (AV.cells o_1) true 332) fun h2 =>
 ob (kloadN 5 h2 (.ptr (Heap.next h) 0)) fun v3 =>
 ob (S 281 [v3] h2) fun r4 => kres r4 (fun v5 h6 =>
 ob (aun .not v5) fun v9 =>
 kif v9
  ((some (false, (.str 0 0), h6)))
  (ob (kfa 0 (.ptr (Heap.next h) 0)) fun v10 =>
  ob (kload h6 v10) fun v11 =>
  ob (S 150 [v11] h6) fun r12 => kres r12 (fun v13 h14 =>
  ob (kfa 1 (.ptr (Heap.next h) 0)) fun v17 =>
  ob (kload h14 v17) fun v18 =>
  ob (kfa 2 (.ptr (Heap.next h) 0)) fun v19 =>
  ob (kload h14 v19) fun v20 =>
  ob (kfa 3 (.ptr (Heap.next h) 0)) fun v21 =>
  ob (kload h14 v21) fun v22 =>
  ob (kfa 4 (.ptr (Heap.next h) 0)) fun v23 =>
  ob (kload h14 v23) fun v24 =>
  ob (abuild Tryz.prog 439 [(0, v18), (1, v20), (2, v22), (3, v24)]) fun v25 =>
  ob (iterD (fun vs26 ds27 h28 => kv3 vs26 fun s_29 v30 v31 =>
   ob (kbinI .lss v31 (.int .i64 (.ofNat 4))) fun v32 =>
   kif v32
    (ob (kixA 4 false 1 v30 v31) fun v33 =>
    ob (S 148 [v33] h28) fun r34 => kres r34 (fun v35 h36 =>
    ob (kbinS .add s_29 v35) fun v39 =>
    ob (kbinI .add v31 (.int .i64 (.ofNat 1))) fun v40 =>
    (some ⟨0, [v39, v30, v40], ds27, h36⟩)) (fun p37 h38 => (some ⟨2, [p37], ds27, h38⟩)))
    ((some ⟨1, [s_29], ds27, h28⟩))) rounds [v13, v25, (.int .i64 (.ofNat 0))] [] h14) fun r41 => kcase (J.i r41) [kv1 (J.vs r41) fun s_42 =>
   (dleave (fun h43 => (some (false, s_42, h43))) (J.ds r41) (J.h r41)),
  kv1 (J.vs r41) fun p44 => (kds (J.ds r41) (some (true, p44, (J.h r41))))]) (fun p15 h16 => (some (true, p15, h16))))) (fun p7 h8 => (some (true, p7, h8))))
theorem F275_ok {S : FS} {D : FD} (hS : SpecsOK Tryz.prog S) (hD : DynOK Tryz.prog D) : SpecOK Tryz.prog 275 (F275 S D) :=
  SpecOK.of (c := match Tryz.f275.body with | some c => c | none => .skip) (by kernel_rfl) hS hD ⟨Tryz.func275, rfl, by decide⟩
    (.seq .n (.seq (.seq .n (.dup (.seq .n .n) .n)) (.seq .n (.seq (.seq .n (.one (.loop [3, 20, 21] [(.exit 0, [3]), (.pan, [])] (.seq .n (.seq (.dup .n .n) (.seq (.one (.seq .n .n)) .n)))))) (.seq .n .n))))) 1 (fun args h => by kernel_rfl)
/-- roundhouse/cred.Sign -/
noncomputable def F276 (S : FS) (D : FD) (args : List AV) (h : Heap) : Option (Bool × AV × Heap) :=
 kv2 args fun key_1 c_2 =>
 knt c_2 (Heap.pushK h (.cells (AV.cells c_2) true 336) fun h3 =>
 ob (kloadN 7 h3 (.ptr (Heap.next h) 0)) fun v4 =>
 ob (S 327 [v4] h3) fun r5 => kres r5 (fun v6 h7 =>
 ob (kbinS .eql v6 (.str 0 0)) fun v10 =>
 kif v10
  ((some (false, (.str 0 0), h7)))
  (ob (S 283 [key_1, v6] h7) fun r11 => kres r11 (fun v12 h13 =>
  ob (kbinS .add v6 v12) fun v16 =>
  (some (false, v16, h13))) (fun p14 h15 => (some (true, p14, h15))))) (fun p8 h9 => (some (true, p8, h9))))
theorem F276_ok {S : FS} {D : FD} (hS : SpecsOK Tryz.prog S) (hD : DynOK Tryz.prog D) : SpecOK Tryz.prog 276 (F276 S D) :=
  SpecOK.of (c := match Tryz.f276.body with | some c => c | none => .skip) (by kernel_rfl) hS hD ⟨Tryz.func276, rfl, by decide⟩
    (.seq .n (.seq .n (.seq (.seq .n (.dup (.seq .n .n) .n)) (.seq .n .n)))) 2 (fun args h => by kernel_rfl)
/-- roundhouse/tally.say[bool] -/
noncomputable def F278 (S : FS) (D : FD) (args : List AV) (h : Heap) : Option (Bool × AV × Heap) :=
 kv4 args fun m_1 node_2 x_3 may_4 =>
 knt x_3 (Heap.pushK h (.cells (AV.cells x_3) true 4) fun h5 =>
 ob (alookup Tryz.prog h5 137 m_1 node_2 true) fun v6 =>
 ob (aextract v6 0) fun v7 =>
 ob (aextract v6 1) fun v8 =>
 ob (aun .not v8) fun v9 =>
 kif v9
  ((some (false, (.int .i64 (.ofNat 1)), h5)))
  (ob (kbinO Tryz.prog .neq 141 true v7 AV.nilptr) fun v10 =>
  ob (kgv true v10 (some v7)) fun v11 =>
  ob (kgv true v10 (knil v11)) fun v12 =>
  ob (kgv true v10 (kload h5 v12)) fun v13 =>
  ob (kgv true v10 (kload h5 (.ptr (Heap.next h) 0))) fun v14 =>
  ob (kgv true v10 (kbinO Tryz.prog .eql 4 false v13 v14)) fun v15 =>
  ob (kpick v10 v15 (.bool false)) fun v16 =>
  kif v16
   ((some (false, (.int .i64 (.ofNat 0)), h5)))
   (ob (kbinO Tryz.prog .neq 141 true v7 AV.nilptr) fun v17 =>
   ob (kgv false v17 (some may_4)) fun v18 =>
   ob (kgv false v17 (aun .not v18)) fun v19 =>
   ob (kpick v17 (.bool true) v19) fun v20 =>
   kif v20
    ((some (false, (.int .i64 (.ofNat 14)), h5)))
    (ob (amapSet Tryz.prog h5 137 m_1 node_2 (.ptr (Heap.next h) 0)) fun h21 =>
    (some (false, (.int .i64 (.ofNat 0)), h21))))))
theorem F278_ok {S : FS} {D : FD} (hS : SpecsOK Tryz.prog S) (hD : DynOK Tryz.prog D) : SpecOK Tryz.prog 278 (F278 S D) :=
  SpecOK.of (c := match Tryz.f278.body with | some c => c | none => .skip) (by kernel_rfl) hS hD ⟨Tryz.func278, rfl, by decide⟩
    (.seq .n (.seq .n (.seq (.one (.seq .n (.dup (.seq .n .n) (.seq .n (.dup (.seq .n .n) (.seq .n (.dup (.seq .n .n) .n))))))) (.seq .n (.seq .n .n))))) 4 (fun args h => by kernel_rfl)
/-- roundhouse/tally.say[int] -/
noncomputable def F279 (S : FS) (D : FD) (args : List AV) (h : Heap) : Option (Bool × AV × Heap) :=
 kv4 args fun m_1 node_2 x_3 may_4 =>
 knt x_3 (Heap.pushK h (.cells (AV.cells x_3) true 3) fun h5 =>
 ob (alookup Tryz.prog h5 138 m_1 node_2 true) fun v6 =>
 ob (aextract v6 0) fun v7 =>
 ob (aextract v6 1) fun v8 =>
 ob (aun .not v8) fun v9 =>
 kif v9
  ((some (false, (.int .i64 (.ofNat 1)), h5)))
  (ob (kbinO Tryz.prog .neq 183 true v7 AV.nilptr) fun v10 =>
  ob (kgv true v10 (some v7)) fun v11 =>
  ob (kgv true v10 (knil v11)) fun v12 =>
  ob (kgv true v10 (kload h5 v12)) fun v13 =>
  ob (kgv true v10 (kload h5 (.ptr (Heap.next h) 0))) fun v14 =>
  ob (kgv true v10 (kbinI .eql v13 v14)) fun v15 =>
  ob (kpick v10 v15 (.bool false)) fun v16 =>
  kif v16
   ((some (false, (.int .i64 (.ofNat 0)), h5)))
   (ob (kbinO Tryz.prog .neq 183 true v7 AV.nilptr) fun v17 =>
   ob (kgv false v17 (some may_4)) fun v18 =>
   ob (kgv false v17 (aun .not v18)) fun v19 =>
   ob (kpick v17 (.bool true) v19) fun v20 =>
   kif v20
    ((some (false, (.int .i64 (.ofNat 14)), h5)))
    (ob (amapSet Tryz.prog h5 138 m_1 node_2 (.ptr (Heap.next h) 0)) fun h21 =>
    (some (false, (.int .i64 (.ofNat 0)), h21))))))
theorem F279_ok {S : FS} {D : FD} (hS : SpecsOK Tryz.prog S) (hD : DynOK Tryz.prog D) : SpecOK Tryz.prog 279 (F279 S D) :=
  SpecOK.of (c := match Tryz.f279.body with | some c => c | none => .skip) (by kernel_rfl) hS hD ⟨Tryz.func279, rfl, by decide⟩
    (.seq .n (.seq .n (.seq (.one (.seq .n (.dup (.seq .n .n) (.seq .n (.dup (.seq .n .n) (.seq .n (.dup (.seq .n .n) .n))))))) (.seq .n (.seq .n .n))))) 4 (fun args h => by kernel_rfl)
/-- roundhouse/rec.Find -/
noncomputable def F280 (S : FS) (D : FD) (args : List AV) (h : Heap) : Option (Bool × AV × Heap) :=
 kv3 args fun s_1 job_2 epoch_3 =>
 knt s_1 (Heap.pushK h (.cells (AV.cells s_1) true 76) fun h4 =>
 Heap.pushK h4 (.cells [(.int .i64 (.ofNat 0)), (.int .i64 (.ofNat 0)), (.int .i64 (.ofNat 0))] true 328) fun h5 =>
 ob (kloadN 3 h5 (.ptr (Heap.next h) 0)) fun v6 =>
 ob (S 328 [v6, job_2, epoch_3] h5) fun r7 => kres r7 (fun v8 h9 =>
 ob (kbinI .geq v8 (.int .i64 (.ofNat 0))) fun v12 =>
 kif v12
  (ob (kfa 0 (.ptr (Heap.next h) 0)) fun v13 =>
  ob (kload h9 v13) fun v14 =>
  ob (kia 3 v14 v8) fun v15 =>
  ob (kloadN 3 h9 v15) fun v16 =>
  ob (kstore 3 (.ptr (Heap.next h4) 0) v16 h9) fun h17 =>
  ob (kloadN 3 h17 (.ptr (Heap.next h4) 0)) fun v18 => (some (false, (.tuple [v18, (.bool true)]), h17)))
  (ob (abuild Tryz.prog 328 []) fun v19 =>
  ob (kstore 3 (.ptr (Heap.next h4) 0) v19 h9) fun h20 =>
  ob (kloadN 3 h20 (.ptr (Heap.next h4) 0)) fun v21 => (some (false, (.tuple [v21, (.bool false)]), h20)))) (fun p10 h11 => (some (true, p10, h11))))
theorem F280_ok {S : FS} {D : FD} (hS : SpecsOK Tryz.prog S) (hD : DynOK Tryz.prog D) : SpecOK Tryz.prog 280 (F280 S D) :=
  SpecOK.of (c := match Tryz.f280.body with | some c => c | none => .skip) (by kernel_rfl) hS hD ⟨Tryz.func280, rfl, by decide⟩
    (.seq .n (.seq (.seq .n (.seq .n (.dup (.seq .n .n) .n))) (.seq .n .n))) 3 (fun args h => by kernel_rfl)
/-- (roundhouse/agent.Order).may -/
noncomputable def F281 (S : FS) (D : FD) (args : List AV) (h : Heap) : Option (Bool × AV × Heap) :=
 kv1 args fun o_1 =>
 knt o_1 (Heap.pushK h (.cells (AV.cells o_1) true 332) fun h2 =>
 ob (kfa 0 (.ptr (Heap.next h) 0)) fun v3 =>
 ob (kload h2 v3) fun v4 =>
 ob (klenS v4) fun v5 =>
 ob (kbinI .leq v5 (.int .i64 (.ofNat 400))) fun v6 =>
 ob (kgv true v6 (kfa 1 (.ptr (Heap.next h) 0))) fun v7 =>
 ob (kgv true v6 (kload h2 v7)) fun v8 =>
 ob (kgc true v6 h2 (S 54 [v8, (.int .i64 (.ofNat 1)), (.int .i64 (.ofNat 32))] h2)) fun r9 => kres r9 (fun v10 h11 =>
 ob (kpick v6 v10 (.bool false)) fun v14 =>
 ob (kgv true v14 (kfa 2 (.ptr (Heap.next h) 0))) fun v15 =>
 ob (kgv true v14 (kload h11 v15)) fun v16 =>
 ob (kgc true v14 h11 (S 54 [v16, (.int .i64 (.ofNat 1)), (.int .i64 (.ofNat 256))] h11)) fun r17 => kres r17 (fun v18 h19 =>
 ob (kpick v14 v18 (.bool false)) fun v22 =>
 ob (kgv true v22 (kfa 3 (.ptr (Heap.next h) 0))) fun v23 =>
 ob (kgv true v22 (kload h19 v23)) fun v24 =>
 ob (kgc true v22 h19 (S 54 [v24, (.int .i64 (.ofNat 0)), (.int .i64 (.ofNat 1))] h19)) fun r25 => kres r25 (fun v26 h27 =>
 ob (kpick v22 v26 (.bool false)) fun v30 =>
 ob (kgv true v30 (kfa 4 (.ptr (Heap.next h) 0))) fun v31 =>
 ob (kgv true v30 (kload h27 v31)) fun v32 =>
 ob (kgc true v30 h27 (S 54 [v32, (.int .i64 (.ofNat 1)), (.int .i64 (.ofNat 1073741824))] h27)) fun r33 => kres r33 (fun v34 h35 =>
 ob (kpick v30 v34 (.bool false)) fun v38 =>
 (some (false, v38, h35))) (fun p36 h37 => (some (true, p36, h37)))) (fun p28 h29 => (some (true, p28, h29)))) (fun p20 h21 => (some (true, p20, h21)))) (fun p12 h13 => (some (true, p12, h13))))
theorem F281_ok {S : FS} {D : FD} (hS : SpecsOK Tryz.prog S) (hD : DynOK Tryz.prog D) : SpecOK Tryz.prog 281 (F281 S D) :=
  SpecOK.of (c := match Tryz.f281.body with | some c => c | none => .skip) (by kernel_rfl) hS hD ⟨Tryz.func281, rfl, by decide⟩
    (.seq .n (.seq .n .n)) 1 (fun args h => by kernel_rfl)
/-- roundhouse/sha.Same -/
noncomputable def F282 (S : FS) (D : FD) (args : List AV) (h : Heap) : Option (Bool × AV × Heap) :=
 kv2 args fun a_1 b_2 =>
 ob (klenS a_1) fun v3 =>
 ob (klenS b_2) fun v4 =>
 ob (kbinI .neq v3 v4) fun v5 =>
 kif v5
  ((some (false, (.bool false), h)))
  (ob (klenS a_1) fun v6 =>
  ob (iterD (fun vs7 ds8 h9 => kv5 vs7 fun a_10 b_11 other_12 v13 v14 =>
   ob (kbinI .lss v14 v13) fun v15 =>
   kif v15
    (ob (kixS a_10 v14) fun v16 =>
    ob (kixS b_11 v14) fun v17 =>
    ob (kbinI .xor v16 v17) fun v18 =>
    ob (kbinI .or other_12 v18) fun v19 =>
    ob (kbinI .add v14 (.int .i64 (.ofNat 1))) fun v20 =>
    (some ⟨0, [a_10, b_11, v19, v13, v20], ds8, h9⟩))
    ((some ⟨1, [other_12], ds8, h9⟩))) rounds [a_1, b_2, (.int .u8 (.ofNat 0)), v6, (.int .i64 (.ofNat 0))] [] h) fun r21 => kcase (J.i r21) [kv1 (J.vs r21) fun other_22 =>
   ob (kbinI .eql other_22 (.int .u8 (.ofNat 0))) fun v23 =>
   (dleave (fun h24 => (some (false, v23, h24))) (J.ds r21) (J.h r21))])
theorem F282_ok {S : FS} {D : FD} (hS : SpecsOK Tryz.prog S) (hD : DynOK Tryz.prog D) : SpecOK Tryz.prog 282 (F282 S D) :=
  SpecOK.of (c := match Tryz.f282.body with | some c => c | none => .skip) (by kernel_rfl) hS hD ⟨Tryz.func282, rfl, by decide⟩
    (.seq .n (.seq (.seq .n (.dup (.seq .n .n) .n)) (.seq .n (.seq (.seq .n (.one (.loop [0, 1, 5, 13, 14] [(.exit 0, [5])] (.seq .n (.seq (.dup .n .n) (.seq (.one (.seq .n .n)) .n)))))) (.seq .n .n))))) 2 (fun args h => by kernel_rfl)
/-- roundhouse/sha.Hmac -/
noncomputable def F283 (S : FS) (D : FD) (args : List AV) (h : Heap) : Option (Bool × AV × Heap) :=
 kv2 args fun key_1 s_2 =>
 ob (klenS key_1) fun v3 =>
 ob (kbinI .gtr v3 (.int .i64 (.ofNat 64))) fun v4 =>
 ob (kif v4
  (ob (S 260 [key_1] h) fun r6 => kres r6 (fun v7 h8 =>
  (some ⟨0, [v7, s_2], [], h8⟩)) (fun p9 h10 => (some ⟨1, [p9], [], h10⟩)))
  ((some ⟨0, [key_1, s_2], [], h⟩))) fun r5 => kcase (J.i r5) [kv2 (J.vs r5) fun key_11 s_12 =>
  ob (S 329 [key_11, (.int .u8 (.ofNat 92))] (J.h r5)) fun r13 => kres r13 (fun v14 h15 =>
  ob (S 329 [key_11, (.int .u8 (.ofNat 54))] h15) fun r18 => kres r18 (fun v19 h20 =>
  ob (kbinS .add v19 s_12) fun v23 =>
  ob (S 260 [v23] h20) fun r24 => kres r24 (fun v25 h26 =>
  ob (kbinS .add v14 v25) fun v29 =>
  ob (S 260 [v29] h26) fun r30 => kres r30 (fun v31 h32 =>
  (dleave (fun h35 => (some (false, v31, h35))) (J.ds r5) h32)) (fun p33 h34 => (kds (J.ds r5) (some (true, p33, h34))))) (fun p27 h28 => (kds (J.ds r5) (some (true, p27, h28))))) (fun p21 h22 => (kds (J.ds r5) (some (true, p21, h22))))) (fun p16 h17 => (kds (J.ds r5) (some (true, p16, h17)))),
 kv1 (J.vs r5) fun p36 => (kds (J.ds r5) (some (true, p36, (J.h r5))))]
theorem F283_ok {S : FS} {D : FD} (hS : SpecsOK Tryz.prog S) (hD : DynOK Tryz.prog D) : SpecOK Tryz.prog 283 (F283 S D) :=
  SpecOK.of (c := match Tryz.f283.body with | some c => c | none => .skip) (by kernel_rfl) hS hD ⟨Tryz.func283, rfl, by decide⟩
    (.seq .n (.seq (.seq .n (.join [(.norm, [0, 1]), (.pan, [])] (.dup .n .n))) (.seq .n .n))) 2 (fun args h => by kernel_rfl)
/-- roundhouse/cred.Decode -/
noncomputable def F284 (S : FS) (D : FD) (args : List AV) (h : Heap) : Option (Bool × AV × Heap) :=
 kv1 args fun s_1 =>
 Heap.pushK h (.cells [(.int .i64 (.ofNat 0)), (.int .i64 (.ofNat 0)), (.int .i64 (.ofNat 0)), (.int .i64 (.ofNat 0)), (.int .i64 (.ofNat 0)), AV.nilslice, (.int .i64 (.ofNat 0))] true 336) fun h2 =>
 ob (S 77 [s_1] h2) fun r3 => kres r3 (fun v4 h5 =>
 ob (S 78 [v4] h5) fun r8 => kres r8 (fun v9 h10 =>
 ob (S 78 [v4] h10) fun r13 => kres r13 (fun v14 h15 =>
 ob (S 78 [v4] h15) fun r18 => kres r18 (fun v19 h20 =>
 ob (S 78 [v4] h20) fun r23 => kres r23 (fun v24 h25 =>
 ob (S 78 [v4] h25) fun r28 => kres r28 (fun v29 h30 =>
 ob (S 78 [v4] h30) fun r33 => kres r33 (fun v34 h35 =>
 ob (S 79 [v4, (.int .i64 (.ofNat 16))] h35) fun r38 => kres r38 (fun v39 h40 =>
 ob (abuild Tryz.prog 336 [(0, v9), (1, v14), (2, v19), (3, v24), (4, v29), (6, v34), (5, v39)]) fun v43 =>
 Heap.pushK h40 (.cells [(.int .i64 (.ofNat 0)), (.int .i64 (.ofNat 0)), (.int .i64 (.ofNat 0)), (.int .i64 (.ofNat 0)), (.int .i64 (.ofNat 0)), AV.nilslice, (.int .i64 (.ofNat 0))] true 336) fun h44 =>
 ob (kstore 7 (.ptr (Heap.next h40) 0) v43 h44) fun h45 =>
 ob (S 80 [v4] h45) fun r46 => kres r46 (fun v47 h48 =>
 ob (aextract v47 0) fun v51 =>
 ob (aextract v47 1) fun v52 =>
 ob (kbinI .neq v51 (.int .i64 (.ofNat 0))) fun v53 =>
 kif v53
  (ob (abuild Tryz.prog 336 []) fun v54 =>
  ob (kstore 7 (.ptr (Heap.next h) 0) v54 h48) fun h55 =>
  ob (kloadN 7 h55 (.ptr (Heap.next h) 0)) fun v56 => (some (false, (.tuple [v56, v51]), h55)))
  (ob (kloadN 7 h48 (.ptr (Heap.next h40) 0)) fun v57 =>
  ob (S 286 [v57] h48) fun r58 => kres r58 (fun v59 h60 =>
  ob (kbinI .neq v59 (.int .i64 (.ofNat 0))) fun v63 =>
  kif v63
   (ob (abuild Tryz.prog 336 []) fun v64 =>
   ob (kstore 7 (.ptr (Heap.next h) 0) v64 h60) fun h65 =>
   ob (kloadN 7 h65 (.ptr (Heap.next h) 0)) fun v66 => (some (false, (.tuple [v66, (.int .i64 (.ofNat 5))]), h65)))
   (ob (kloadN 7 h60 (.ptr (Heap.next h40) 0)) fun v67 =>
   ob (kstore 7 (.ptr (Heap.next h) 0) v67 h60) fun h68 =>
   ob (kloadN 7 h68 (.ptr (Heap.next h) 0)) fun v69 => (some (false, (.tuple [v69, (.int .i64 (.ofNat 0))]), h68)))) (fun p61 h62 => (some (true, p61, h62))))) (fun p49 h50 => (some (true, p49, h50)))) (fun p41 h42 => (some (true, p41, h42)))) (fun p36 h37 => (some (true, p36, h37)))) (fun p31 h32 => (some (true, p31, h32)))) (fun p26 h27 => (some (true, p26, h27)))) (fun p21 h22 => (some (true, p21, h22)))) (fun p16 h17 => (some (true, p16, h17)))) (fun p11 h12 => (some (true, p11, h12)))) (fun p6 h7 => (some (true, p6, h7)))
theorem F284_ok {S : FS} {D : FD} (hS : SpecsOK Tryz.prog S) (hD : DynOK Tryz.prog D) : SpecOK Tryz.prog 284 (F284 S D) :=
  SpecOK.of (c := match Tryz.f284.body with | some c => c | none => .skip) (by kernel_rfl) hS hD ⟨Tryz.func284, rfl, by decide⟩
    (.seq .n (.seq .n (.seq .n (.seq (.seq .n (.seq .n (.dup (.seq .n .n) .n))) (.seq (.seq .n (.dup (.seq .n .n) .n)) (.seq .n .n)))))) 1 (fun args h => by kernel_rfl)
/-- roundhouse/cred.Allows$1 -/
noncomputable def F285 (S : FS) (D : FD) (args : List AV) (h : Heap) : Option (Bool × AV × Heap) :=
 kv1 args fun v1 =>
 ob (kloadN 7 h v1) fun v2 =>
 ob (S 286 [v2] h) fun r3 => kres r3 (fun v4 h5 =>
 ob (kbinI .eql v4 (.int .i64 (.ofNat 0))) fun v8 =>
 (some (false, v8, h5))) (fun p6 h7 => (some (true, p6, h7)))
theorem F285_ok {S : FS} {D : FD} (hS : SpecsOK Tryz.prog S) (hD : DynOK Tryz.prog D) : SpecOK Tryz.prog 285 (F285 S D) :=
  SpecOK.of (c := match Tryz.f285.body with | some c => c | none => .skip) (by kernel_rfl) hS hD ⟨Tryz.func285, rfl, by decide⟩
    (.seq .n (.seq .n .n)) 1 (fun args h => by kernel_rfl)
/-- roundhouse/cred.Check -/
noncomputable def F286 (S : FS) (D : FD) (args : List AV) (h : Heap) : Option (Bool × AV × Heap) :=
 kv1 args fun c_1 =>
 knt c_1 (Heap.pushK h (.cells (AV.cells c_1) true 336) fun h2 =>
 ob (kfa 0 (.ptr (Heap.next h) 0)) fun v3 =>
 ob (kload h2 v3) fun v4 =>
 ob (D (.func 330 []) [v4] h2) fun r5 => kres r5 (fun v6 h7 =>
 ob (aun .not v6) fun v10 =>
 ob (kgv false v10 (some (.func 330 []))) fun v11 =>
 ob (kgv false v10 (kfa 2 (.ptr (Heap.next h) 0))) fun v12 =>
 ob (kgv false v10 (kload h7 v12)) fun v13 =>
 ob (kgc false v10 h7 (D v11 [v13] h7)) fun r14 => kres r14 (fun v15 h16 =>
 ob (kgv false v10 (aun .not v15)) fun v19 =>
 ob (kpick v10 (.bool true) v19) fun v20 =>
 ob (kgv false v20 (some (.func 330 []))) fun v21 =>
 ob (kgv false v20 (kfa 3 (.ptr (Heap.next h) 0))) fun v22 =>
 ob (kgv false v20 (kload h16 v22)) fun v23 =>
 ob (kgc false v20 h16 (D v21 [v23] h16)) fun r24 => kres r24 (fun v25 h26 =>
 ob (kgv false v20 (aun .not v25)) fun v29 =>
 ob (kpick v20 (.bool true) v29) fun v30 =>
 ob (kgv false v30 (some (.func 330 []))) fun v31 =>
 ob (kgv false v30 (kfa 4 (.ptr (Heap.next h) 0))) fun v32 =>
 ob (kgv false v30 (kload h26 v32)) fun v33 =>
 ob (kgc false v30 h26 (D v31 [v33] h26)) fun r34 => kres r34 (fun v35 h36 =>
 ob (kgv false v30 (aun .not v35)) fun v39 =>
 ob (kpick v30 (.bool true) v39) fun v40 =>
 ob (kgv false v40 (kfa 1 (.ptr (Heap.next h) 0))) fun v41 =>
 ob (kgv false v40 (kload h36 v41)) fun v42 =>
 ob (kgc false v40 h36 (S 289 [v42, (.int .i64 (.ofNat 0)), (.int .i64 (.ofNat 8))] h36)) fun r43 => kres r43 (fun v44 h45 =>
 ob (kgv false v40 (aun .not v44)) fun v48 =>
 ob (kpick v40 (.bool true) v48) fun v49 =>
 ob (kgv false v49 (kfa 6 (.ptr (Heap.next h) 0))) fun v50 =>
 ob (kgv false v49 (kload h45 v50)) fun v51 =>
 ob (kgc false v49 h45 (S 289 [v51, (.int .i64 (.ofNat 1)), (.int .i64 (.ofNat 256))] h45)) fun r52 => kres r52 (fun v53 h54 =>
 ob (kgv false v49 (aun .not v53)) fun v57 =>
 ob (kpick v49 (.bool true) v57) fun v58 =>
 ob (kgv false v58 (kfa 5 (.ptr (Heap.next h) 0))) fun v59 =>
 ob (kgv false v58 (kload h54 v59)) fun v60 =>
 ob (kgc false v58 h54 (S 331 [v60] h54)) fun r61 => kres r61 (fun v62 h63 =>
 ob (kgv false v58 (aun .not v62)) fun v66 =>
 ob (kpick v58 (.bool true) v66) fun v67 =>
 kif v67
  ((some (false, (.int .i64 (.ofNat 1)), h63)))
  ((some (false, (.int .i64 (.ofNat 0)), h63)))) (fun p64 h65 => (some (true, p64, h65)))) (fun p55 h56 => (some (true, p55, h56)))) (fun p46 h47 => (some (true, p46, h47)))) (fun p37 h38 => (some (true, p37, h38)))) (fun p27 h28 => (some (true, p27, h28)))) (fun p17 h18 => (some (true, p17, h18)))) (fun p8 h9 => (some (true, p8, h9))))
theorem F286_ok {S : FS} {D : FD} (hS : SpecsOK Tryz.prog S) (hD : DynOK Tryz.prog D) : SpecOK Tryz.prog 286 (F286 S D) :=
  SpecOK.of (c := match Tryz.f286.body with | some c => c | none => .skip) (by kernel_rfl) hS hD ⟨Tryz.func286, rfl, by decide⟩
    (.seq .n (.seq .n (.seq (.seq .n (.dup (.seq .n .n) .n)) (.seq .n .n)))) 1 (fun args h => by kernel_rfl)
/-- roundhouse/cred.Allows$2 -/
noncomputable def F287 (S : FS) (D : FD) (args : List AV) (h : Heap) : Option (Bool × AV × Heap) :=
 kv2 args fun v1 v2 =>
 ob (kfa 0 v1) fun v3 =>
 ob (kload h v3) fun v4 =>
 ob (kfa 0 v2) fun v5 =>
 ob (kload h v5) fun v6 =>
 ob (kbinI .eql v4 v6) fun v7 =>
 ob (kgv true v7 (kfa 1 v1)) fun v8 =>
 ob (kgv true v7 (kload h v8)) fun v9 =>
 ob (kgv true v7 (kfa 1 v2)) fun v10 =>
 ob (kgv true v7 (kload h v10)) fun v11 =>
 ob (kgv true v7 (kbinI .eql v9 v11)) fun v12 =>
 ob (kpick v7 v12 (.bool false)) fun v13 =>
 ob (kgv true v13 (kfa 2 v1)) fun v14 =>
 ob (kgv true v13 (kload h v14)) fun v15 =>
 ob (kgv true v13 (kfa 2 v2)) fun v16 =>
 ob (kgv true v13 (kload h v16)) fun v17 =>
 ob (kgv true v13 (kbinI .eql v15 v17)) fun v18 =>
 ob (kpick v13 v18 (.bool false)) fun v19 =>
 (some (false, v19, h))
theorem F287_ok {S : FS} {D : FD} (hS : SpecsOK Tryz.prog S) (hD : DynOK Tryz.prog D) : SpecOK Tryz.prog 287 (F287 S D) :=
  SpecOK.of (c := match Tryz.f287.body with | some c => c | none => .skip) (by kernel_rfl) hS hD ⟨Tryz.func287, rfl, by decide⟩
    (.seq .n (.seq .n .n)) 2 (fun args h => by kernel_rfl)
/-- roundhouse/cred.Allows$3 -/
noncomputable def F288 (S : FS) (D : FD) (args : List AV) (h : Heap) : Option (Bool × AV × Heap) :=
 kv2 args fun v1 v2 =>
 ob (kfa 5 v1) fun v3 =>
 ob (kload h v3) fun v4 =>
 ob (kfa 3 v2) fun v5 =>
 ob (kload h v5) fun v6 =>
 ob (S 153 [v4, v6] h) fun r7 => kres r7 (fun v8 h9 =>
 ob (kgv true v8 (kfa 4 v2)) fun v12 =>
 ob (kgv true v8 (kload h9 v12)) fun v13 =>
 ob (kgv true v8 (kfa 6 v1)) fun v14 =>
 ob (kgv true v8 (kload h9 v14)) fun v15 =>
 ob (kgc true v8 h9 (S 289 [v13, (.int .i64 (.ofNat 1)), v15] h9)) fun r16 => kres r16 (fun v17 h18 =>
 ob (kpick v8 v17 (.bool false)) fun v21 =>
 (some (false, v21, h18))) (fun p19 h20 => (some (true, p19, h20)))) (fun p10 h11 => (some (true, p10, h11)))
theorem F288_ok {S : FS} {D : FD} (hS : SpecsOK Tryz.prog S) (hD : DynOK Tryz.prog D) : SpecOK Tryz.prog 288 (F288 S D) :=
  SpecOK.of (c := match Tryz.f288.body with | some c => c | none => .skip) (by kernel_rfl) hS hD ⟨Tryz.func288, rfl, by decide⟩
    (.seq .n (.seq .n .n)) 2 (fun args h => by kernel_rfl)
/-- roundhouse/cred.in -/
noncomputable def F289 (S : FS) (D : FD) (args : List AV) (h : Heap) : Option (Bool × AV × Heap) :=
 kv3 args fun n_1 least_2 most_3 =>
 ob (kbinI .geq n_1 least_2) fun v4 =>
 ob (kgv true v4 (some n_1)) fun v5 =>
 ob (kgv true v4 (some most_3)) fun v6 =>
 ob (kgv true v4 (kbinI .leq v5 v6)) fun v7 =>
 ob (kpick v4 v7 (.bool false)) fun v8 =>
 (some (false, v8, h))
theorem F289_ok {S : FS} {D : FD} (hS : SpecsOK Tryz.prog S) (hD : DynOK Tryz.prog D) : SpecOK Tryz.prog 289 (F289 S D) :=
  SpecOK.of (c := match Tryz.f289.body with | some c => c | none => .skip) (by kernel_rfl) hS hD ⟨Tryz.func289, rfl, by decide⟩
    (.seq .n (.seq .n .n)) 3 (fun args h => by kernel_rfl)
/-- roundhouse/cred.Allows$4 -/
noncomputable def F290 (S : FS) (D : FD) (args : List AV) (h : Heap) : Option (Bool × AV × Heap) :=
 kv2 args fun v1 v2 =>
 ob (kfa 5 v1) fun v3 =>
 ob (kload h v3) fun v4 =>
 ob (kfa 3 v2) fun v5 =>
 ob (kload h v5) fun v6 =>
 ob (kbinI .geq v4 v6) fun v7 =>
 ob (kgv true v7 (kfa 5 v1)) fun v8 =>
 ob (kgv true v7 (kload h v8)) fun v9 =>
 ob (kgv true v7 (kfa 4 v2)) fun v10 =>
 ob (kgv true v7 (kload h v10)) fun v11 =>
 ob (kgv true v7 (kbinI .lss v9 v11)) fun v12 =>
 ob (kpick v7 v12 (.bool false)) fun v13 =>
 (some (false, v13, h))
theorem F290_ok {S : FS} {D : FD} (hS : SpecsOK Tryz.prog S) (hD : DynOK Tryz.prog D) : SpecOK Tryz.prog 290 (F290 S D) :=
  SpecOK.of (c := match Tryz.f290.body with | some c => c | none => .skip) (by kernel_rfl) hS hD ⟨Tryz.func290, rfl, by decide⟩
    (.seq .n (.seq .n .n)) 2 (fun args h => by kernel_rfl)
/-- (*roundhouse/replay.Cache).Revoked -/
noncomputable def F291 (S : FS) (D : FD) (args : List AV) (h : Heap) : Option (Bool × AV × Heap) :=
 kv2 args fun c_1 x_2 =>
 knt x_2 (Heap.pushK h (.cells (AV.cells x_2) true 336) fun h3 =>
 ob (kbinO Tryz.prog .eql 78 true c_1 AV.nilptr) fun v4 =>
 kif v4
  ((some (false, (.bool false), h3)))
  (ob (knil c_1) fun v5 =>
  ob (kfa 2 v5) fun v6 =>
  ob (kload h3 v6) fun v7 =>
  ob (kfa 0 (.ptr (Heap.next h) 0)) fun v8 =>
  ob (kload h3 v8) fun v9 =>
  ob (alookup Tryz.prog h3 79 v7 v9 true) fun v10 =>
  ob (aextract v10 0) fun v11 =>
  ob (aextract v10 1) fun v12 =>
  ob (kgv true v12 (some v11)) fun v13 =>
  ob (kgv true v12 (kfa 1 (.ptr (Heap.next h) 0))) fun v14 =>
  ob (kgv true v12 (kload h3 v14)) fun v15 =>
  ob (kgv true v12 (kbinI .geq v13 v15)) fun v16 =>
  ob (kpick v12 v16 (.bool false)) fun v17 =>
  (some (false, v17, h3))))
theorem F291_ok {S : FS} {D : FD} (hS : SpecsOK Tryz.prog S) (hD : DynOK Tryz.prog D) : SpecOK Tryz.prog 291 (F291 S D) :=
  SpecOK.of (c := match Tryz.f291.body with | some c => c | none => .skip) (by kernel_rfl) hS hD ⟨Tryz.func291, rfl, by decide⟩
    (.seq .n (.seq (.seq .n (.dup (.seq .n .n) .n)) (.seq .n (.seq .n .n)))) 2 (fun args h => by kernel_rfl)
/-- maps.DeleteFunc[map[roundhouse/replay.place]int,roundhouse/replay.place,int] -/
noncomputable def F292 (S : FS) (D : FD) (args : List AV) (h : Heap) : Option (Bool × AV × Heap) :=
 kv2 args fun m_1 del_2 =>
 ob (arangeM Tryz.prog h 234 m_1) fun r3 =>
 ob (iterD (fun vs4 ds5 h6 => kv3 vs4 fun m_7 del_8 v9 =>
  ob (anext h6 v9 false) fun r10 =>
  ob (aextract r10.1 0) fun v11 =>
  kif v11
   (ob (aentry r10.2 v9) fun v12 =>
   ob (aextract v12 0) fun v13 =>
   ob (aextract v12 1) fun v14 =>
   Heap.pushK r10.2 (.cells [(.int .i64 (.ofNat 0)), (.int .i64 (.ofNat 0)), (.int .i64 (.ofNat 0))] true 416) fun h15 =>
   ob (kstore 3 (.ptr (Heap.next r10.2) 0) v13 h15) fun h16 =>
   ob (kloadN 3 h16 (.ptr (Heap.next r10.2) 0)) fun v17 =>
   ob (D del_8 [v17, v14] h16) fun r18 => kres r18 (fun v19 h20 =>
   ob (kif v19
    (ob (kloadN 3 h20 (.ptr (Heap.next r10.2) 0)) fun v24 =>
    ob (amapDel Tryz.prog h20 234 m_7 v24) fun h25 =>
    (some ⟨0, [m_7, del_8, v9], ds5, h25⟩))
    ((some ⟨0, [m_7, del_8, v9], ds5, h20⟩))) fun r23 => kcase (J.i r23) [kv3 (J.vs r23) fun m_26 del_27 v28 =>
    (some ⟨0, [m_26, del_27, v28], (J.ds r23), (J.h r23)⟩)]) (fun p21 h22 => (some ⟨2, [p21], ds5, h22⟩)))
   ((some ⟨1, [], ds5, r10.2⟩))) rounds [m_1, del_2, r3.1] [] r3.2) fun r29 => kcase (J.i r29) [kv0 (J.vs r29) ((dleave (fun h30 => (some (false, (.tuple []), h30))) (J.ds r29) (J.h r29))),
 kv1 (J.vs r29) fun p31 => (kds (J.ds r29) (some (true, p31, (J.h r29))))]
theorem F292_ok {S : FS} {D : FD} (hS : SpecsOK Tryz.prog S) (hD : DynOK Tryz.prog D) : SpecOK Tryz.prog 292 (F292 S D) :=
  SpecOK.of (c := match Tryz.f292.body with | some c => c | none => .skip) (by kernel_rfl) hS hD ⟨Tryz.func292, rfl, by decide⟩
    (.seq .n (.one (.loop [0, 1, 7] [(.exit 0, []), (.pan, [])] (.seq .n (.seq (.dup .n .n) (.one (.seq .n (.seq .n (.join [(.norm, [0, 1, 7])] (.dup .n .n)))))))))) 2 (fun args h => by kernel_rfl)
/-- (*roundhouse/replay.Cache).Use$1 -/
noncomputable def F293 (S : FS) (D : FD) (args : List AV) (h : Heap) : Option (Bool × AV × Heap) :=
 kv3 args fun v1 until_2 v3 =>
 knt v1 (Heap.pushK h (.cells (AV.cells v1) true 416) fun h4 =>
 ob (kload h4 v3) fun v5 =>
 ob (kbinI .leq until_2 v5) fun v6 =>
 (some (false, v6, h4)))
theorem F293_ok {S : FS} {D : FD} (hS : SpecsOK Tryz.prog S) (hD : DynOK Tryz.prog D) : SpecOK Tryz.prog 293 (F293 S D) :=
  SpecOK.of (c := match Tryz.f293.body with | some c => c | none => .skip) (by kernel_rfl) hS hD ⟨Tryz.func293, rfl, by decide⟩
    (.seq .n (.seq .n .n)) 3 (fun args h => by kernel_rfl)
/-- roundhouse/replay.of -/
noncomputable def F294 (S : FS) (D : FD) (args : List AV) (h : Heap) : Option (Bool × AV × Heap) :=
 kv1 args fun x_1 =>
 knt x_1 (Heap.pushK h (.cells (AV.cells x_1) true 336) fun h2 =>
 Heap.pushK h2 (.cells [(.int .i64 (.ofNat 0)), (.int .i64 (.ofNat 0)), (.int .i64 (.ofNat 0))] true 416) fun h3 =>
 ob (kfa 0 (.ptr (Heap.next h) 0)) fun v4 =>
 ob (kload h3 v4) fun v5 =>
 ob (kfa 1 (.ptr (Heap.next h) 0)) fun v6 =>
 ob (kload h3 v6) fun v7 =>
 ob (kfa 2 (.ptr (Heap.next h) 0)) fun v8 =>
 ob (kload h3 v8) fun v9 =>
 ob (abuild Tryz.prog 416 [(0, v5), (1, v7), (2, v9)]) fun v10 =>
 ob (kstore 3 (.ptr (Heap.next h2) 0) v10 h3) fun h11 =>
 ob (kloadN 3 h11 (.ptr (Heap.next h2) 0)) fun v12 => (some (false, v12, h11)))
theorem F294_ok {S : FS} {D : FD} (hS : SpecsOK Tryz.prog S) (hD : DynOK Tryz.prog D) : SpecOK Tryz.prog 294 (F294 S D) :=
  SpecOK.of (c := match Tryz.f294.body with | some c => c | none => .skip) (by kernel_rfl) hS hD ⟨Tryz.func294, rfl, by decide⟩
    (.seq .n (.seq .n .n)) 1 (fun args h => by kernel_rfl)
/-- (*roundhouse/agent.Agent).spawn$1 -/
noncomputable def F296 (S : FS) (D : FD) (args : List AV) (h : Heap) : Option (Bool × AV × Heap) :=
 kv3 args fun v1 v2 v3 =>
 ob (kload h v1) fun v4 =>
 ob (aun .not v4) fun v5 =>
 ob (kif v5
  (ob (kload h v2) fun v7 =>
  ob (kload h v3) fun v8 =>
  ob (S 98 [v7, v8, (.int .i64 (.ofNat 9))] h) fun r9 => kres r9 (fun v10 h11 =>
  ob (kload h11 v2) fun v14 =>
  ob (kload h11 v3) fun v15 =>
  ob (S 170 [v14, v15] h11) fun r16 => kres r16 (fun v17 h18 =>
  ob (kstore 1 v3 AV.nilslice h18) fun h21 =>
  (some ⟨0, [], [], h21⟩)) (fun p19 h20 => (some ⟨1, [p19], [], h20⟩))) (fun p12 h13 => (some ⟨1, [p12], [], h13⟩)))
  ((some ⟨0, [], [], h⟩))) fun r6 => kcase (J.i r6) [kv0 (J.vs r6) ((dleave (fun h22 => (some (false, (.tuple []), h22))) (J.ds r6) (J.h r6))),
 kv1 (J.vs r6) fun p23 => (kds (J.ds r6) (some (true, p23, (J.h r6))))]
theorem F296_ok {S : FS} {D : FD} (hS : SpecsOK Tryz.prog S) (hD : DynOK Tryz.prog D) : SpecOK Tryz.prog 296 (F296 S D) :=
  SpecOK.of (c := match Tryz.f296.body with | some c => c | none => .skip) (by kernel_rfl) hS hD ⟨Tryz.func296, rfl, by decide⟩
    (.seq .n (.join [(.norm, []), (.pan, [])] (.dup (.seq .n (.seq .n .n)) .n))) 3 (fun args h => by kernel_rfl)
/-- (*roundhouse/procs.Table).Spawn -/
noncomputable def F297 (S : FS) (D : FD) (args : List AV) (h : Heap) : Option (Bool × AV × Heap) :=
 kv2 args fun t_1 x_2 =>
 knt x_2 (Heap.pushK h (.cells (AV.cells x_2) true 92) fun h3 =>
 ob (kbinO Tryz.prog .eql 66 true t_1 AV.nilptr) fun v4 =>
 ob (kgv false v4 (kloadN 8 h3 (.ptr (Heap.next h) 0))) fun v5 =>
 ob (kgc false v4 h3 (S 333 [v5] h3)) fun r6 => kres r6 (fun v7 h8 =>
 ob (kgv false v4 (aun .not v7)) fun v11 =>
 ob (kpick v4 (.bool true) v11) fun v12 =>
 kif v12
  ((some (false, (.tuple [(.int .i64 (.ofNat 0)), (.int .i64 (.ofNat 1))]), h8)))
  (ob (knil t_1) fun v13 =>
  ob (kfa 0 v13) fun v14 =>
  ob (kload h8 v14) fun v15 =>
  ob (klenM h8 v15) fun v16 =>
  ob (kbinI .eql v16 (.int .i64 (.ofNat 256))) fun v17 =>
  kif v17
   ((some (false, (.tuple [(.int .i64 (.ofNat 0)), (.int .i64 (.ofNat 6))]), h8)))
   (ob (knil t_1) fun v18 =>
   ob (kfa 1 v18) fun v19 =>
   ob (kload h8 v19) fun v20 =>
   ob (kbinI .add v20 (.int .i64 (.ofNat 1))) fun v21 =>
   ob (knil t_1) fun v22 =>
   ob (kfa 1 v22) fun v23 =>
   ob (kstore 1 v23 v21 h8) fun h24 =>
   ob (knil t_1) fun v25 =>
   ob (kfa 1 v25) fun v26 =>
   ob (kload h24 v26) fun v27 =>
   ob (kfa 0 (.ptr (Heap.next h) 0)) fun v28 =>
   ob (kstore 1 v28 v27 h24) fun h29 =>
   ob (kfa 6 (.ptr (Heap.next h) 0)) fun v30 =>
   ob (kstore 1 v30 (.int .i64 (.ofNat 0)) h29) fun h31 =>
   ob (kfa 7 (.ptr (Heap.next h) 0)) fun v32 =>
   ob (kstore 1 v32 (.int .i64 (.ofNat 0)) h31) fun h33 =>
   ob (kfa 5 (.ptr (Heap.next h) 0)) fun v34 =>
   ob (kload h33 v34) fun v35 =>
   ob (S 33 [v35] h33) fun r36 => kres r36 (fun v37 h38 =>
   ob (kfa 5 (.ptr (Heap.next h) 0)) fun v41 =>
   ob (kstore 1 v41 v37 h38) fun h42 =>
   ob (knil t_1) fun v43 =>
   ob (kfa 0 v43) fun v44 =>
   ob (kload h42 v44) fun v45 =>
   ob (knil t_1) fun v46 =>
   ob (kfa 1 v46) fun v47 =>
   ob (kload h42 v47) fun v48 =>
   ob (kloadN 8 h42 (.ptr (Heap.next h) 0)) fun v49 =>
   ob (abuild Tryz.prog 177 [(0, v49)]) fun v50 =>
   kfree h42 (knt v50 (Heap.pushK h42 (.cells (AV.cells v50) true 177) fun h51 =>
   ob (amapSet Tryz.prog h51 172 v45 v48 (.ptr (Heap.next h42) 0)) fun h52 =>
   ob (knil t_1) fun v53 =>
   ob (kfa 1 v53) fun v54 =>
   ob (kload h52 v54) fun v55 =>
   (some (false, (.tuple [v55, (.int .i64 (.ofNat 0))]), h52))))) (fun p39 h40 => (some (true, p39, h40)))))) (fun p9 h10 => (some (true, p9, h10))))
theorem F297_ok {S : FS} {D : FD} (hS : SpecsOK Tryz.prog S) (hD : DynOK Tryz.prog D) : SpecOK Tryz.prog 297 (F297 S D) :=
  SpecOK.of (c := match Tryz.f297.body with | some c => c | none => .skip) (by kernel_rfl) hS hD ⟨Tryz.func297, rfl, by decide⟩
    (.seq .n (.seq (.one (.seq .n (.dup (.seq .n .n) (.seq .n (.dup (.seq .n .n) .n))))) (.seq .n (.seq .n (.seq .n (.seq .n (.seq .n .n))))))) 2 (fun args h => by kernel_rfl)
/-- (roundhouse/mask.Mask).List -/
noncomputable def F298 (S : FS) (D : FD) (args : List AV) (h : Heap) : Option (Bool × AV × Heap) :=
 kv1 args fun m_1 =>
 knt m_1 (Heap.pushK h (.cells (AV.cells m_1) true 287) fun h2 =>
 ob (kloadN 4 h2 (.ptr (Heap.next h) 0)) fun v3 =>
 ob (S 334 [v3] h2) fun r4 => kres r4 (fun v5 h6 =>
 ob (S 125 [v5] h6) fun r9 => kres r9 (fun v10 h11 =>
 (some (false, v10, h11))) (fun p12 h13 => (some (true, p12, h13)))) (fun p7 h8 => (some (true, p7, h8))))
theorem F298_ok {S : FS} {D : FD} (hS : SpecsOK Tryz.prog S) (hD : DynOK Tryz.prog D) : SpecOK Tryz.prog 298 (F298 S D) :=
  SpecOK.of (c := match Tryz.f298.body with | some c => c | none => .skip) (by kernel_rfl) hS hD ⟨Tryz.func298, rfl, by decide⟩
    (.seq .n (.seq .n .n)) 1 (fun args h => by kernel_rfl)
/-- (*roundhouse/node.asked).newer -/
noncomputable def F299 (S : FS) (D : FD) (args : List AV) (h : Heap) : Option (Bool × AV × Heap) :=
 kv1 args fun x_1 =>
 knt x_1 (Heap.pushK h (.cells (AV.cells x_1) true 325) fun h2 =>
 ob (kload h2 (.ptr (Heap.next h) 0)) fun v3 =>
 ob (knil v3) fun v4 =>
 ob (kfa 9 v4) fun v5 =>
 ob (kfa 0 v5) fun v6 =>
 ob (kload h2 v6) fun v7 =>
 ob (S 335 [v7, (.func 336 [(.ptr (Heap.next h) 0)])] h2) fun r8 => kres r8 (fun v9 h10 =>
 (some (false, v9, h10))) (fun p11 h12 => (some (true, p11, h12))))
theorem F299_ok {S : FS} {D : FD} (hS : SpecsOK Tryz.prog S) (hD : DynOK Tryz.prog D) : SpecOK Tryz.prog 299 (F299 S D) :=
  SpecOK.of (c := match Tryz.f299.body with | some c => c | none => .skip) (by kernel_rfl) hS hD ⟨Tryz.func299, rfl, by decide⟩
    (.seq .n (.seq .n .n)) 1 (fun args h => by kernel_rfl)
/-- roundhouse/rec.Alive -/
noncomputable def F300 (S : FS) (D : FD) (args : List AV) (h : Heap) : Option (Bool × AV × Heap) :=
 kv3 args fun s_1 job_2 epoch_3 =>
 knt s_1 (Heap.pushK h (.cells (AV.cells s_1) true 76) fun h4 =>
 knt job_2 (Heap.pushK h4 (.cells (AV.cells job_2) true 3) fun h5 =>
 knt epoch_3 (Heap.pushK h5 (.cells (AV.cells epoch_3) true 3) fun h6 =>
 ob (kfa 1 (.ptr (Heap.next h) 0)) fun v7 =>
 ob (kload h6 v7) fun v8 =>
 ob (S 337 [v8, (.func 338 [(.ptr (Heap.next h4) 0), (.ptr (Heap.next h5) 0)])] h6) fun r9 => kres r9 (fun v10 h11 =>
 (some (false, v10, h11))) (fun p12 h13 => (some (true, p12, h13))))))
theorem F300_ok {S : FS} {D : FD} (hS : SpecsOK Tryz.prog S) (hD : DynOK Tryz.prog D) : SpecOK Tryz.prog 300 (F300 S D) :=
  SpecOK.of (c := match Tryz.f300.body with | some c => c | none => .skip) (by kernel_rfl) hS hD ⟨Tryz.func300, rfl, by decide⟩
    (.seq .n (.seq .n .n)) 3 (fun args h => by kernel_rfl)
/-- roundhouse/wire.List -/
noncomputable def F301 (S : FS) (D : FD) (args : List AV) (h : Heap) : Option (Bool × AV × Heap) :=
 kv1 args fun l_1 =>
 ob (klenL l_1) fun v2 =>
 ob (kbinI .gtr v2 (.int .i64 (.ofNat 4096))) fun v3 =>
 kif v3
  ((some (false, (.str 0 0), h)))
  (Heap.pushK h (.cells [AV.nilptr, AV.nilslice] true 256) fun h4 =>
  ob (klenL l_1) fun v5 =>
  ob (S 148 [v5] h4) fun r6 => kres r6 (fun v7 h8 =>
  ob (S 147 [(.ptr (Heap.next h) 0), v7] h8) fun r11 => kres r11 (fun v12 h13 =>
  ob (klenL l_1) fun v16 =>
  ob (iterD (fun vs17 ds18 h19 => kv4 vs17 fun out_20 v21 v22 v23 =>
   ob (kbinI .lss v23 v22) fun v24 =>
   kif v24
    (ob (kia 1 v21 v23) fun v25 =>
    ob (kload h19 v25) fun v26 =>
    ob (S 188 [v26] h19) fun r27 => kres r27 (fun v28 h29 =>
    ob (aun .not v28) fun v32 =>
    kif v32
     ((some ⟨2, [(.str 0 0)], ds18, h29⟩))
     (ob (S 148 [v26] h29) fun r33 => kres r33 (fun v34 h35 =>
     ob (S 147 [out_20, v34] h35) fun r38 => kres r38 (fun v39 h40 =>
     ob (kbinI .add v23 (.int .i64 (.ofNat 1))) fun v43 =>
     (some ⟨0, [out_20, v21, v22, v43], ds18, h40⟩)) (fun p41 h42 => (some ⟨3, [p41], ds18, h42⟩))) (fun p36 h37 => (some ⟨3, [p36], ds18, h37⟩)))) (fun p30 h31 => (some ⟨3, [p30], ds18, h31⟩)))
    ((some ⟨1, [out_20], ds18, h19⟩))) rounds [(.ptr (Heap.next h) 0), l_1, v16, (.int .i64 (.ofNat 0))] [] h13) fun r44 => kcase (J.i r44) [kv1 (J.vs r44) fun out_45 =>
   ob (S 149 [out_45] (J.h r44)) fun r46 => kres r46 (fun v47 h48 =>
   (dleave (fun h51 => (some (false, v47, h51))) (J.ds r44) h48)) (fun p49 h50 => (kds (J.ds r44) (some (true, p49, h50)))),
  kv1 (J.vs r44) fun v52 =>
   (dleave (fun h53 => (some (false, v52, h53))) (J.ds r44) (J.h r44)),
  kv1 (J.vs r44) fun p54 => (kds (J.ds r44) (some (true, p54, (J.h r44))))]) (fun p14 h15 => (some (true, p14, h15)))) (fun p9 h10 => (some (true, p9, h10))))
theorem F301_ok {S : FS} {D : FD} (hS : SpecsOK Tryz.prog S) (hD : DynOK Tryz.prog D) : SpecOK Tryz.prog 301 (F301 S D) :=
  SpecOK.of (c := match Tryz.f301.body with | some c => c | none => .skip) (by kernel_rfl) hS hD ⟨Tryz.func301, rfl, by decide⟩
    (.seq .n (.seq (.seq .n (.dup (.seq .n .n) .n)) (.seq .n (.seq .n (.seq (.seq .n (.one (.loop [3, 13, 14, 15] [(.exit 0, [3]), (.ret, [2]), (.pan, [])] (.seq .n (.seq (.dup .n .n) (.seq (.one (.seq .n (.seq (.seq .n (.dup (.seq .n .n) .n)) .n))) .n)))))) (.seq .n .n)))))) 1 (fun args h => by kernel_rfl)
/-- roundhouse/procs.is$1 -/
noncomputable def F302 (S : FS) (D : FD) (args : List AV) (h : Heap) : Option (Bool × AV × Heap) :=
 kv2 args fun s_1 v2 =>
 ob (kload h v2) fun v3 =>
 ob (kbinI .eql s_1 v3) fun v4 =>
 (some (false, v4, h))
theorem F302_ok {S : FS} {D : FD} (hS : SpecsOK Tryz.prog S) (hD : DynOK Tryz.prog D) : SpecOK Tryz.prog 302 (F302 S D) :=
  SpecOK.of (c := match Tryz.f302.body with | some c => c | none => .skip) (by kernel_rfl) hS hD ⟨Tryz.func302, rfl, by decide⟩
    (.seq .n (.seq .n .n)) 2 (fun args h => by kernel_rfl)
/-- roundhouse/acct.Of -/
noncomputable def F303 (S : FS) (D : FD) (args : List AV) (h : Heap) : Option (Bool × AV × Heap) :=
 kv1 args fun u_1 =>
 knt u_1 (Heap.pushK h (.cells (AV.cells u_1) true 359) fun h2 =>
 ob (kfa 0 (.ptr (Heap.next h) 0)) fun v3 =>
 ob (kload h2 v3) fun v4 =>
 ob (kbinI .lss v4 (.int .i64 (.ofNat 0))) fun v5 =>
 ob (kgv false v5 (kfa 0 (.ptr (Heap.next h) 0))) fun v6 =>
 ob (kgv false v5 (kload h2 v6)) fun v7 =>
 ob (kgv false v5 (kbinI .gtr v7 (.int .i64 (.ofNat 1099511627776)))) fun v8 =>
 ob (kpick v5 (.bool true) v8) fun v9 =>
 ob (kgv false v9 (kfa 1 (.ptr (Heap.next h) 0))) fun v10 =>
 ob (kgv false v9 (kload h2 v10)) fun v11 =>
 ob (kgv false v9 (kbinI .lss v11 (.int .i64 (.ofNat 0)))) fun v12 =>
 ob (kpick v9 (.bool true) v12) fun v13 =>
 ob (kgv false v13 (kfa 2 (.ptr (Heap.next h) 0))) fun v14 =>
 ob (kgv false v13 (kload h2 v14)) fun v15 =>
 ob (kgv false v13 (kbinI .lss v15 (.int .i64 (.ofNat 0)))) fun v16 =>
 ob (kpick v13 (.bool true) v16) fun v17 =>
 ob (kgv false v17 (kfa 2 (.ptr (Heap.next h) 0))) fun v18 =>
 ob (kgv false v17 (kload h2 v18)) fun v19 =>
 ob (kgv false v17 (kfa 3 (.ptr (Heap.next h) 0))) fun v20 =>
 ob (kgv false v17 (kload h2 v20)) fun v21 =>
 ob (kgv false v17 (kbinI .gtr v19 v21)) fun v22 =>
 ob (kpick v17 (.bool true) v22) fun v23 =>
 kif v23
  ((some (false, (.tuple [(.int .i64 (.ofNat 0)), (.int .i64 (.ofNat 1))]), h2)))
  (ob (kfa 1 (.ptr (Heap.next h) 0)) fun v24 =>
  ob (kload h2 v24) fun v25 =>
  ob (kfa 3 (.ptr (Heap.next h) 0)) fun v26 =>
  ob (kload h2 v26) fun v27 =>
  ob (kfa 2 (.ptr (Heap.next h) 0)) fun v28 =>
  ob (kload h2 v28) fun v29 =>
  ob (kbinI .sub v27 v29) fun v30 =>
  ob (S 339 [v25, v30] h2) fun r31 => kres r31 (fun v32 h33 =>
  (some (false, (.tuple [v32, (.int .i64 (.ofNat 0))]), h33))) (fun p34 h35 => (some (true, p34, h35)))))
theorem F303_ok {S : FS} {D : FD} (hS : SpecsOK Tryz.prog S) (hD : DynOK Tryz.prog D) : SpecOK Tryz.prog 303 (F303 S D) :=
  SpecOK.of (c := match Tryz.f303.body with | some c => c | none => .skip) (by kernel_rfl) hS hD ⟨Tryz.func303, rfl, by decide⟩
    (.seq .n (.seq (.seq .n (.dup (.seq .n .n) .n)) (.seq .n .n))) 1 (fun args h => by kernel_rfl)
end Go.Rh.Tryz
