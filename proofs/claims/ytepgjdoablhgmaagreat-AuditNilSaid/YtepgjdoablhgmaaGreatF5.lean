/- Printed by wip/tools/gen.py: functions of the program as plain functions over abstract values, each with its proof. -/
import Derived.Test.YtepgjdoablhgmaaGreatProg
import Derived.Test.YtepgjdoablhgmaaGreatRh3
set_option maxRecDepth 1000000
set_option linter.unusedVariables false
namespace Go.Rh.Tryz
open Go.Proofs
/-- slices.partitionEqualOrdered[int] -/
noncomputable def F166 (S : FS) (D : FD) (args : List AV) (h : Heap) : Option (Bool × AV × Heap) :=
 kv4 args fun data_1 a_2 b_3 pivot_4 =>
 ob (kia 1 data_1 pivot_4) fun v5 =>
 ob (kload h v5) fun v6 =>
 ob (kia 1 data_1 a_2) fun v7 =>
 ob (kload h v7) fun v8 =>
 ob (kia 1 data_1 a_2) fun v9 =>
 ob (kstore 1 v9 v6 h) fun h10 =>
 ob (kia 1 data_1 pivot_4) fun v11 =>
 ob (kstore 1 v11 v8 h10) fun h12 =>
 ob (kbinI .add a_2 (.int .i64 (.ofNat 1))) fun v13 =>
 ob (kbinI .sub b_3 (.int .i64 (.ofNat 1))) fun v14 =>
 ob (iterD (fun vs15 ds16 h17 => kv4 vs15 fun data_18 a_19 i_20 j_21 =>
  ob (iterD (fun vs22 ds23 h24 => kv4 vs22 fun data_25 a_26 i_27 j_28 =>
   ob (kbinI .leq i_27 j_28) fun v29 =>
   ob (kgv true v29 (some data_25)) fun v30 =>
   ob (kgv true v29 (some a_26)) fun v31 =>
   ob (kgv true v29 (kia 1 v30 v31)) fun v32 =>
   ob (kgv true v29 (kload h24 v32)) fun v33 =>
   ob (kgv true v29 (some data_25)) fun v34 =>
   ob (kgv true v29 (some i_27)) fun v35 =>
   ob (kgv true v29 (kia 1 v34 v35)) fun v36 =>
   ob (kgv true v29 (kload h24 v36)) fun v37 =>
   ob (kgc true v29 h24 (S 165 [v33, v37] h24)) fun r38 => kres r38 (fun v39 h40 =>
   ob (kgv true v29 (aun .not v39)) fun v43 =>
   ob (kpick v29 v43 (.bool false)) fun v44 =>
   kif v44
    (ob (kbinI .add i_27 (.int .i64 (.ofNat 1))) fun v45 =>
    (some ⟨0, [data_25, a_26, v45, j_28], ds23, h40⟩))
    ((some ⟨1, [data_25, a_26, i_27, j_28], ds23, h40⟩))) (fun p41 h42 => (some ⟨2, [p41], ds23, h42⟩))) rounds [data_18, a_19, i_20, j_21] ds16 h17) fun r46 => kcase (J.i r46) [kv4 (J.vs r46) fun data_47 a_48 i_49 j_50 =>
   ob (iterD (fun vs51 ds52 h53 => kv4 vs51 fun data_54 a_55 i_56 j_57 =>
    ob (kbinI .leq i_56 j_57) fun v58 =>
    ob (kgv true v58 (some data_54)) fun v59 =>
    ob (kgv true v58 (some a_55)) fun v60 =>
    ob (kgv true v58 (kia 1 v59 v60)) fun v61 =>
    ob (kgv true v58 (kload h53 v61)) fun v62 =>
    ob (kgv true v58 (some data_54)) fun v63 =>
    ob (kgv true v58 (some j_57)) fun v64 =>
    ob (kgv true v58 (kia 1 v63 v64)) fun v65 =>
    ob (kgv true v58 (kload h53 v65)) fun v66 =>
    ob (kgc true v58 h53 (S 165 [v62, v66] h53)) fun r67 => kres r67 (fun v68 h69 =>
    ob (kpick v58 v68 (.bool false)) fun v72 =>
    kif v72
     (ob (kbinI .sub j_57 (.int .i64 (.ofNat 1))) fun v73 =>
     (some ⟨0, [data_54, a_55, i_56, v73], ds52, h69⟩))
     ((some ⟨1, [data_54, a_55, i_56, j_57], ds52, h69⟩))) (fun p70 h71 => (some ⟨2, [p70], ds52, h71⟩))) rounds [data_47, a_48, i_49, j_50] (J.ds r46) (J.h r46)) fun r74 => kcase (J.i r74) [kv4 (J.vs r74) fun data_75 a_76 i_77 j_78 =>
    ob (kbinI .gtr i_77 j_78) fun v79 =>
    kif v79
     ((some ⟨1, [i_77], (J.ds r74), (J.h r74)⟩))
     (ob (kia 1 data_75 j_78) fun v80 =>
     ob (kload (J.h r74) v80) fun v81 =>
     ob (kia 1 data_75 i_77) fun v82 =>
     ob (kload (J.h r74) v82) fun v83 =>
     ob (kia 1 data_75 i_77) fun v84 =>
     ob (kstore 1 v84 v81 (J.h r74)) fun h85 =>
     ob (kia 1 data_75 j_78) fun v86 =>
     ob (kstore 1 v86 v83 h85) fun h87 =>
     ob (kbinI .add i_77 (.int .i64 (.ofNat 1))) fun v88 =>
     ob (kbinI .sub j_78 (.int .i64 (.ofNat 1))) fun v89 =>
     (some ⟨0, [data_75, a_76, v88, v89], (J.ds r74), h87⟩)),
   kv1 (J.vs r74) fun p90 => (some ⟨2, [p90], (J.ds r74), (J.h r74)⟩)],
  kv1 (J.vs r46) fun p91 => (some ⟨2, [p91], (J.ds r46), (J.h r46)⟩)]) rounds [data_1, a_2, v13, v14] [] h12) fun r92 => kcase (J.i r92) [kv1 (J.vs r92) fun i_93 =>
  (dleave (fun h94 => (some (false, i_93, h94))) (J.ds r92) (J.h r92)),
 kv1 (J.vs r92) fun p95 => (kds (J.ds r92) (some (true, p95, (J.h r92))))]
theorem F166_ok {S : FS} {D : FD} (hS : SpecsOK Tryz.prog S) (hD : DynOK Tryz.prog D) : SpecOK Tryz.prog 166 (F166 S D) :=
  SpecOK.of (c := match Tryz.f166.body with | some c => c | none => .skip) (by kernel_rfl) hS hD ⟨Tryz.func166, rfl, by decide⟩
    (.seq .n (.seq .n (.seq .n (.seq (.one (.loop [0, 1, 9, 10] [(.exit 0, [9]), (.pan, [])] (.one (.seq (.one (.loop [0, 1, 9, 10] [(.exit 2, [0, 1, 9, 10]), (.pan, [])] (.seq (.seq .n (.dup .n .n)) (.one .n)))) (.seq (.one (.loop [0, 1, 9, 10] [(.exit 4, [0, 1, 9, 10]), (.pan, [])] (.seq (.seq .n (.dup .n .n)) (.one .n)))) (.seq (.seq .n (.dup .n .n)) (.seq .n (.seq .n .n)))))))) (.seq .n .n))))) 4 (fun args h => by kernel_rfl)
/-- slices.partitionOrdered[int] -/
noncomputable def F167 (S : FS) (D : FD) (args : List AV) (h : Heap) : Option (Bool × AV × Heap) :=
 kv4 args fun data_1 a_2 b_3 pivot_4 =>
 ob (kia 1 data_1 pivot_4) fun v5 =>
 ob (kload h v5) fun v6 =>
 ob (kia 1 data_1 a_2) fun v7 =>
 ob (kload h v7) fun v8 =>
 ob (kia 1 data_1 a_2) fun v9 =>
 ob (kstore 1 v9 v6 h) fun h10 =>
 ob (kia 1 data_1 pivot_4) fun v11 =>
 ob (kstore 1 v11 v8 h10) fun h12 =>
 ob (kbinI .add a_2 (.int .i64 (.ofNat 1))) fun v13 =>
 ob (kbinI .sub b_3 (.int .i64 (.ofNat 1))) fun v14 =>
 ob (iterD (fun vs15 ds16 h17 => kv4 vs15 fun data_18 a_19 i_20 j_21 =>
  ob (kbinI .leq i_20 j_21) fun v22 =>
  ob (kgv true v22 (some data_18)) fun v23 =>
  ob (kgv true v22 (some i_20)) fun v24 =>
  ob (kgv true v22 (kia 1 v23 v24)) fun v25 =>
  ob (kgv true v22 (kload h17 v25)) fun v26 =>
  ob (kgv true v22 (some data_18)) fun v27 =>
  ob (kgv true v22 (some a_19)) fun v28 =>
  ob (kgv true v22 (kia 1 v27 v28)) fun v29 =>
  ob (kgv true v22 (kload h17 v29)) fun v30 =>
  ob (kgc true v22 h17 (S 165 [v26, v30] h17)) fun r31 => kres r31 (fun v32 h33 =>
  ob (kpick v22 v32 (.bool false)) fun v36 =>
  kif v36
   (ob (kbinI .add i_20 (.int .i64 (.ofNat 1))) fun v37 =>
   (some ⟨0, [data_18, a_19, v37, j_21], ds16, h33⟩))
   ((some ⟨1, [data_18, a_19, i_20, j_21], ds16, h33⟩))) (fun p34 h35 => (some ⟨2, [p34], ds16, h35⟩))) rounds [data_1, a_2, v13, v14] [] h12) fun r38 => kcase (J.i r38) [kv4 (J.vs r38) fun data_39 a_40 i_41 j_42 =>
  ob (iterD (fun vs43 ds44 h45 => kv4 vs43 fun data_46 a_47 i_48 j_49 =>
   ob (kbinI .leq i_48 j_49) fun v50 =>
   ob (kgv true v50 (some data_46)) fun v51 =>
   ob (kgv true v50 (some j_49)) fun v52 =>
   ob (kgv true v50 (kia 1 v51 v52)) fun v53 =>
   ob (kgv true v50 (kload h45 v53)) fun v54 =>
   ob (kgv true v50 (some data_46)) fun v55 =>
   ob (kgv true v50 (some a_47)) fun v56 =>
   ob (kgv true v50 (kia 1 v55 v56)) fun v57 =>
   ob (kgv true v50 (kload h45 v57)) fun v58 =>
   ob (kgc true v50 h45 (S 165 [v54, v58] h45)) fun r59 => kres r59 (fun v60 h61 =>
   ob (kgv true v50 (aun .not v60)) fun v64 =>
   ob (kpick v50 v64 (.bool false)) fun v65 =>
   kif v65
    (ob (kbinI .sub j_49 (.int .i64 (.ofNat 1))) fun v66 =>
    (some ⟨0, [data_46, a_47, i_48, v66], ds44, h61⟩))
    ((some ⟨1, [data_46, a_47, i_48, j_49], ds44, h61⟩))) (fun p62 h63 => (some ⟨2, [p62], ds44, h63⟩))) rounds [data_39, a_40, i_41, j_42] (J.ds r38) (J.h r38)) fun r67 => kcase (J.i r67) [kv4 (J.vs r67) fun data_68 a_69 i_70 j_71 =>
   ob (kbinI .gtr i_70 j_71) fun v72 =>
   kif v72
    (ob (kia 1 data_68 a_69) fun v73 =>
    ob (kload (J.h r67) v73) fun v74 =>
    ob (kia 1 data_68 j_71) fun v75 =>
    ob (kload (J.h r67) v75) fun v76 =>
    ob (kia 1 data_68 j_71) fun v77 =>
    ob (kstore 1 v77 v74 (J.h r67)) fun h78 =>
    ob (kia 1 data_68 a_69) fun v79 =>
    ob (kstore 1 v79 v76 h78) fun h80 =>
    (dleave (fun h81 => (some (false, (.tuple [j_71, (.bool true)]), h81))) (J.ds r67) h80))
    (ob (kia 1 data_68 j_71) fun v82 =>
    ob (kload (J.h r67) v82) fun v83 =>
    ob (kia 1 data_68 i_70) fun v84 =>
    ob (kload (J.h r67) v84) fun v85 =>
    ob (kia 1 data_68 i_70) fun v86 =>
    ob (kstore 1 v86 v83 (J.h r67)) fun h87 =>
    ob (kia 1 data_68 j_71) fun v88 =>
    ob (kstore 1 v88 v85 h87) fun h89 =>
    ob (kbinI .add i_70 (.int .i64 (.ofNat 1))) fun v90 =>
    ob (kbinI .sub j_71 (.int .i64 (.ofNat 1))) fun v91 =>
    ob (iterD (fun vs92 ds93 h94 => kv4 vs92 fun data_95 a_96 i_97 j_98 =>
     ob (iterD (fun vs99 ds100 h101 => kv4 vs99 fun data_102 a_103 i_104 j_105 =>
      ob (kbinI .leq i_104 j_105) fun v106 =>
      ob (kgv true v106 (some data_102)) fun v107 =>
      ob (kgv true v106 (some i_104)) fun v108 =>
      ob (kgv true v106 (kia 1 v107 v108)) fun v109 =>
      ob (kgv true v106 (kload h101 v109)) fun v110 =>
      ob (kgv true v106 (some data_102)) fun v111 =>
      ob (kgv true v106 (some a_103)) fun v112 =>
      ob (kgv true v106 (kia 1 v111 v112)) fun v113 =>
      ob (kgv true v106 (kload h101 v113)) fun v114 =>
      ob (kgc true v106 h101 (S 165 [v110, v114] h101)) fun r115 => kres r115 (fun v116 h117 =>
      ob (kpick v106 v116 (.bool false)) fun v120 =>
      kif v120
       (ob (kbinI .add i_104 (.int .i64 (.ofNat 1))) fun v121 =>
       (some ⟨0, [data_102, a_103, v121, j_105], ds100, h117⟩))
       ((some ⟨1, [data_102, a_103, i_104, j_105], ds100, h117⟩))) (fun p118 h119 => (some ⟨2, [p118], ds100, h119⟩))) rounds [data_95, a_96, i_97, j_98] ds93 h94) fun r122 => kcase (J.i r122) [kv4 (J.vs r122) fun data_123 a_124 i_125 j_126 =>
      ob (iterD (fun vs127 ds128 h129 => kv4 vs127 fun data_130 a_131 i_132 j_133 =>
       ob (kbinI .leq i_132 j_133) fun v134 =>
       ob (kgv true v134 (some data_130)) fun v135 =>
       ob (kgv true v134 (some j_133)) fun v136 =>
       ob (kgv true v134 (kia 1 v135 v136)) fun v137 =>
       ob (kgv true v134 (kload h129 v137)) fun v138 =>
       ob (kgv true v134 (some data_130)) fun v139 =>
       ob (kgv true v134 (some a_131)) fun v140 =>
       ob (kgv true v134 (kia 1 v139 v140)) fun v141 =>
       ob (kgv true v134 (kload h129 v141)) fun v142 =>
       ob (kgc true v134 h129 (S 165 [v138, v142] h129)) fun r143 => kres r143 (fun v144 h145 =>
       ob (kgv true v134 (aun .not v144)) fun v148 =>
       ob (kpick v134 v148 (.bool false)) fun v149 =>
       kif v149
        (ob (kbinI .sub j_133 (.int .i64 (.ofNat 1))) fun v150 =>
        (some ⟨0, [data_130, a_131, i_132, v150], ds128, h145⟩))
        ((some ⟨1, [data_130, a_131, i_132, j_133], ds128, h145⟩))) (fun p146 h147 => (some ⟨2, [p146], ds128, h147⟩))) rounds [data_123, a_124, i_125, j_126] (J.ds r122) (J.h r122)) fun r151 => kcase (J.i r151) [kv4 (J.vs r151) fun data_152 a_153 i_154 j_155 =>
       ob (kbinI .gtr i_154 j_155) fun v156 =>
       kif v156
        ((some ⟨1, [data_152, a_153, j_155], (J.ds r151), (J.h r151)⟩))
        (ob (kia 1 data_152 j_155) fun v157 =>
        ob (kload (J.h r151) v157) fun v158 =>
        ob (kia 1 data_152 i_154) fun v159 =>
        ob (kload (J.h r151) v159) fun v160 =>
        ob (kia 1 data_152 i_154) fun v161 =>
        ob (kstore 1 v161 v158 (J.h r151)) fun h162 =>
        ob (kia 1 data_152 j_155) fun v163 =>
        ob (kstore 1 v163 v160 h162) fun h164 =>
        ob (kbinI .add i_154 (.int .i64 (.ofNat 1))) fun v165 =>
        ob (kbinI .sub j_155 (.int .i64 (.ofNat 1))) fun v166 =>
        (some ⟨0, [data_152, a_153, v165, v166], (J.ds r151), h164⟩)),
      kv1 (J.vs r151) fun p167 => (some ⟨2, [p167], (J.ds r151), (J.h r151)⟩)],
     kv1 (J.vs r122) fun p168 => (some ⟨2, [p168], (J.ds r122), (J.h r122)⟩)]) rounds [data_68, a_69, v90, v91] (J.ds r67) h89) fun r169 => kcase (J.i r169) [kv3 (J.vs r169) fun data_170 a_171 j_172 =>
     ob (kia 1 data_170 a_171) fun v173 =>
     ob (kload (J.h r169) v173) fun v174 =>
     ob (kia 1 data_170 j_172) fun v175 =>
     ob (kload (J.h r169) v175) fun v176 =>
     ob (kia 1 data_170 j_172) fun v177 =>
     ob (kstore 1 v177 v174 (J.h r169)) fun h178 =>
     ob (kia 1 data_170 a_171) fun v179 =>
     ob (kstore 1 v179 v176 h178) fun h180 =>
     (dleave (fun h181 => (some (false, (.tuple [j_172, (.bool false)]), h181))) (J.ds r169) h180),
    kv1 (J.vs r169) fun p182 => (kds (J.ds r169) (some (true, p182, (J.h r169))))]),
  kv1 (J.vs r67) fun p183 => (kds (J.ds r67) (some (true, p183, (J.h r67))))],
 kv1 (J.vs r38) fun p184 => (kds (J.ds r38) (some (true, p184, (J.h r38))))]
theorem F167_ok {S : FS} {D : FD} (hS : SpecsOK Tryz.prog S) (hD : DynOK Tryz.prog D) : SpecOK Tryz.prog 167 (F167 S D) :=
  SpecOK.of (c := match Tryz.f167.body with | some c => c | none => .skip) (by kernel_rfl) hS hD ⟨Tryz.func167, rfl, by decide⟩
    (.seq .n (.seq .n (.seq .n (.seq (.one (.loop [0, 1, 10, 11] [(.exit 0, [0, 1, 10, 11]), (.pan, [])] (.seq (.seq .n (.dup .n .n)) (.one .n)))) (.seq (.one (.loop [0, 1, 10, 11] [(.exit 2, [0, 1, 10, 11]), (.pan, [])] (.seq (.seq .n (.dup .n .n)) (.one .n)))) (.seq (.seq .n (.dup (.seq .n (.seq .n .n)) .n)) (.seq .n (.seq .n (.seq .n (.seq (.one (.loop [0, 1, 10, 11] [(.exit 4, [0, 1, 11]), (.pan, [])] (.one (.seq (.one (.loop [0, 1, 10, 11] [(.exit 6, [0, 1, 10, 11]), (.pan, [])] (.seq (.seq .n (.dup .n .n)) (.one .n)))) (.seq (.one (.loop [0, 1, 10, 11] [(.exit 8, [0, 1, 10, 11]), (.pan, [])] (.seq (.seq .n (.dup .n .n)) (.one .n)))) (.seq (.seq .n (.dup .n .n)) (.seq .n (.seq .n .n)))))))) (.seq .n (.seq .n .n)))))))))))) 4 (fun args h => by kernel_rfl)
/-- slices.Index[[]int,int] -/
noncomputable def F168 (S : FS) (D : FD) (args : List AV) (h : Heap) : Option (Bool × AV × Heap) :=
 kv2 args fun s_1 v2 =>
 ob (klenL s_1) fun v3 =>
 ob (iterD (fun vs4 ds5 h6 => kv4 vs4 fun s_7 v8 v9 v10 =>
  ob (kbinI .lss v10 v9) fun v11 =>
  kif v11
   (ob (kia 1 s_7 v10) fun v12 =>
   ob (kload h6 v12) fun v13 =>
   ob (kbinI .eql v8 v13) fun v14 =>
   kif v14
    ((some ⟨2, [v10], ds5, h6⟩))
    (ob (kbinI .add v10 (.int .i64 (.ofNat 1))) fun v15 =>
    (some ⟨0, [s_7, v8, v9, v15], ds5, h6⟩)))
   ((some ⟨1, [], ds5, h6⟩))) rounds [s_1, v2, v3, (.int .i64 (.ofNat 0))] [] h) fun r16 => kcase (J.i r16) [kv0 (J.vs r16) ((dleave (fun h17 => (some (false, (.int .i64 (.negSucc 0)), h17))) (J.ds r16) (J.h r16))),
 kv1 (J.vs r16) fun v18 =>
  (dleave (fun h19 => (some (false, v18, h19))) (J.ds r16) (J.h r16))]
theorem F168_ok {S : FS} {D : FD} (hS : SpecsOK Tryz.prog S) (hD : DynOK Tryz.prog D) : SpecOK Tryz.prog 168 (F168 S D) :=
  SpecOK.of (c := match Tryz.f168.body with | some c => c | none => .skip) (by kernel_rfl) hS hD ⟨Tryz.func168, rfl, by decide⟩
    (.seq .n (.seq (.seq .n (.one (.loop [0, 1, 7, 8] [(.exit 0, []), (.ret, [4])] (.seq .n (.seq (.dup .n .n) (.seq (.one (.seq .n (.seq .n (.dup (.seq .n .n) .n)))) .n)))))) (.seq .n .n))) 2 (fun args h => by kernel_rfl)
/-- slices.ContainsFunc[[]int,int] -/
noncomputable def F169 (S : FS) (D : FD) (args : List AV) (h : Heap) : Option (Bool × AV × Heap) :=
 kv2 args fun s_1 f_2 =>
 ob (S 178 [s_1, f_2] h) fun r3 => kres r3 (fun v4 h5 =>
 ob (kbinI .geq v4 (.int .i64 (.ofNat 0))) fun v8 =>
 (some (false, v8, h5))) (fun p6 h7 => (some (true, p6, h7)))
theorem F169_ok {S : FS} {D : FD} (hS : SpecsOK Tryz.prog S) (hD : DynOK Tryz.prog D) : SpecOK Tryz.prog 169 (F169 S D) :=
  SpecOK.of (c := match Tryz.f169.body with | some c => c | none => .skip) (by kernel_rfl) hS hD ⟨Tryz.func169, rfl, by decide⟩
    (.seq .n (.seq .n .n)) 2 (fun args h => by kernel_rfl)
/-- (roundhouse/trace.past).any$1 -/
noncomputable def F170 (S : FS) (D : FD) (args : List AV) (h : Heap) : Option (Bool × AV × Heap) :=
 kv3 args fun kind_1 v2 v3 =>
 ob (kload h v2) fun v4 =>
 ob (kloadN 6 h v3) fun v5 =>
 ob (S 171 [v4, kind_1, v5] h) fun r6 => kres r6 (fun v7 h8 =>
 ob (aextract v7 0) fun v11 =>
 ob (aextract v7 1) fun v12 =>
 Heap.pushK h8 (.cells [(.int .i64 (.ofNat 0)), (.int .i64 (.ofNat 0)), (.int .i64 (.ofNat 0)), (.int .i64 (.ofNat 0)), (.int .i64 (.ofNat 0)), (.int .i64 (.ofNat 0))] true 174) fun h13 =>
 ob (kstore 6 (.ptr (Heap.next h8) 0) v11 h13) fun h14 =>
 (some (false, v12, h14))) (fun p9 h10 => (some (true, p9, h10)))
theorem F170_ok {S : FS} {D : FD} (hS : SpecsOK Tryz.prog S) (hD : DynOK Tryz.prog D) : SpecOK Tryz.prog 170 (F170 S D) :=
  SpecOK.of (c := match Tryz.f170.body with | some c => c | none => .skip) (by kernel_rfl) hS hD ⟨Tryz.func170, rfl, by decide⟩
    (.seq .n (.seq .n (.seq .n .n))) 3 (fun args h => by kernel_rfl)
/-- (roundhouse/trace.past).goes -/
noncomputable def F172 (S : FS) (D : FD) (args : List AV) (h : Heap) : Option (Bool × AV × Heap) :=
 kv2 args fun l_1 x_2 =>
 knt x_2 (Heap.pushK h (.cells (AV.cells x_2) true 174) fun h3 =>
 ob (kfa 1 (.ptr (Heap.next h) 0)) fun v4 =>
 ob (kstore 1 v4 (.int .i64 (.negSucc 0)) h3) fun h5 =>
 ob (kloadN 6 h5 (.ptr (Heap.next h) 0)) fun v6 =>
 ob (abuildSlice Tryz.prog 37 1 [(0, (.int .i64 (.ofNat 10)))]) fun r7 => Heap.pushK h5 (.cells r7.1 true r7.2.2) fun h8 =>
 ob (S 115 [l_1, v6, (.slice (Heap.next h5) 0 1 1 r7.2.1)] h8) fun r9 => kres r9 (fun v10 h11 =>
 (some (false, v10, h11))) (fun p12 h13 => (some (true, p12, h13))))
theorem F172_ok {S : FS} {D : FD} (hS : SpecsOK Tryz.prog S) (hD : DynOK Tryz.prog D) : SpecOK Tryz.prog 172 (F172 S D) :=
  SpecOK.of (c := match Tryz.f172.body with | some c => c | none => .skip) (by kernel_rfl) hS hD ⟨Tryz.func172, rfl, by decide⟩
    (.seq .n (.seq .n (.seq .n .n))) 2 (fun args h => by kernel_rfl)
/-- slices.ContainsFunc[roundhouse/trace.past,roundhouse/world.Event] -/
noncomputable def F173 (S : FS) (D : FD) (args : List AV) (h : Heap) : Option (Bool × AV × Heap) :=
 kv2 args fun s_1 f_2 =>
 ob (S 222 [s_1, f_2] h) fun r3 => kres r3 (fun v4 h5 =>
 ob (kbinI .geq v4 (.int .i64 (.ofNat 0))) fun v8 =>
 (some (false, v8, h5))) (fun p6 h7 => (some (true, p6, h7)))
theorem F173_ok {S : FS} {D : FD} (hS : SpecsOK Tryz.prog S) (hD : DynOK Tryz.prog D) : SpecOK Tryz.prog 173 (F173 S D) :=
  SpecOK.of (c := match Tryz.f173.body with | some c => c | none => .skip) (by kernel_rfl) hS hD ⟨Tryz.func173, rfl, by decide⟩
    (.seq .n (.seq .n .n)) 2 (fun args h => by kernel_rfl)
/-- (roundhouse/trace.past).holds -/
noncomputable def F175 (S : FS) (D : FD) (args : List AV) (h : Heap) : Option (Bool × AV × Heap) :=
 kv3 args fun l_1 x_2 e_3 =>
 knt x_2 (Heap.pushK h (.cells (AV.cells x_2) true 174) fun h4 =>
 knt e_3 (Heap.pushK h4 (.cells (AV.cells e_3) true 231) fun h5 =>
 ob (kloadN 6 h5 (.ptr (Heap.next h) 0)) fun v6 =>
 ob (kfa 0 (.ptr (Heap.next h4) 0)) fun v7 =>
 ob (kload h5 v7) fun v8 =>
 ob (S 223 [l_1, v6, v8] h5) fun r9 => kres r9 (fun v10 h11 =>
 ob (kfa 1 (.ptr (Heap.next h4) 0)) fun v14 =>
 ob (kload h11 v14) fun v15 =>
 ob (kbinI .eql v15 (.int .i64 (.ofNat 0))) fun v16 =>
 kif v16
  (ob (kbinI .eql v10 (.int .i64 (.ofNat 0))) fun v17 =>
  (some (false, v17, h11)))
  (ob (kbinI .eql v15 (.int .i64 (.ofNat 1))) fun v18 =>
  kif v18
   (ob (kbinI .neq v10 (.int .i64 (.negSucc 0))) fun v19 =>
   (some (false, v19, h11)))
   (ob (kbinI .geq v10 (.int .i64 (.ofNat 1))) fun v20 =>
   ob (kgv true v20 (some v10)) fun v21 =>
   ob (kgv true v20 (kbinI .leq v21 (.int .i64 (.ofNat 255)))) fun v22 =>
   ob (kpick v20 v22 (.bool false)) fun v23 =>
   (some (false, v23, h11))))) (fun p12 h13 => (some (true, p12, h13)))))
theorem F175_ok {S : FS} {D : FD} (hS : SpecsOK Tryz.prog S) (hD : DynOK Tryz.prog D) : SpecOK Tryz.prog 175 (F175 S D) :=
  SpecOK.of (c := match Tryz.f175.body with | some c => c | none => .skip) (by kernel_rfl) hS hD ⟨Tryz.func175, rfl, by decide⟩
    (.seq .n (.seq .n (.seq (.seq .n (.one (.seq .n (.dup (.seq .n .n) (.seq .n (.dup (.seq .n .n) .n)))))) (.seq .n .n)))) 3 (fun args h => by kernel_rfl)
/-- (roundhouse/trace.past).going$1 -/
noncomputable def F176 (S : FS) (D : FD) (args : List AV) (h : Heap) : Option (Bool × AV × Heap) :=
 kv3 args fun n_1 v2 v3 =>
 ob (kfa 1 v2) fun v4 =>
 ob (kstore 1 v4 n_1 h) fun h5 =>
 ob (kload h5 v3) fun v6 =>
 ob (kloadN 6 h5 v2) fun v7 =>
 ob (abuildSlice Tryz.prog 37 1 [(0, (.int .i64 (.ofNat 1)))]) fun r8 => Heap.pushK h5 (.cells r8.1 true r8.2.2) fun h9 =>
 ob (S 115 [v6, v7, (.slice (Heap.next h5) 0 1 1 r8.2.1)] h9) fun r10 => kres r10 (fun v11 h12 =>
 ob (aun .not v11) fun v15 =>
 (some (false, v15, h12))) (fun p13 h14 => (some (true, p13, h14)))
theorem F176_ok {S : FS} {D : FD} (hS : SpecsOK Tryz.prog S) (hD : DynOK Tryz.prog D) : SpecOK Tryz.prog 176 (F176 S D) :=
  SpecOK.of (c := match Tryz.f176.body with | some c => c | none => .skip) (by kernel_rfl) hS hD ⟨Tryz.func176, rfl, by decide⟩
    (.seq .n (.seq .n (.seq .n .n))) 3 (fun args h => by kernel_rfl)
/-- slices.Max[[]int,int] -/
noncomputable def F177 (S : FS) (D : FD) (args : List AV) (h : Heap) : Option (Bool × AV × Heap) :=
 kv1 args fun x_1 =>
 ob (klenL x_1) fun v2 =>
 ob (kbinI .lss v2 (.int .i64 (.ofNat 1))) fun v3 =>
 kif v3
  (kpan (.iface 9 (.str 22 43569427165811886929444707632401303150185065025727603)) fun p4 => (some (true, p4, h)))
  (ob (kia 1 x_1 (.int .i64 (.ofNat 0))) fun v5 =>
  ob (kload h v5) fun v6 =>
  ob (iterD (fun vs7 ds8 h9 => kv3 vs7 fun x_10 m_11 i_12 =>
   ob (klenL x_10) fun v13 =>
   ob (kbinI .lss i_12 v13) fun v14 =>
   kif v14
    (ob (kia 1 x_10 i_12) fun v15 =>
    ob (kload h9 v15) fun v16 =>
    ob (amaxs true [m_11, v16]) fun v17 =>
    ob (kbinI .add i_12 (.int .i64 (.ofNat 1))) fun v18 =>
    (some ⟨0, [x_10, v17, v18], ds8, h9⟩))
    ((some ⟨1, [m_11], ds8, h9⟩))) rounds [x_1, v6, (.int .i64 (.ofNat 1))] [] h) fun r19 => kcase (J.i r19) [kv1 (J.vs r19) fun m_20 =>
   (dleave (fun h21 => (some (false, m_20, h21))) (J.ds r19) (J.h r19))])
theorem F177_ok {S : FS} {D : FD} (hS : SpecsOK Tryz.prog S) (hD : DynOK Tryz.prog D) : SpecOK Tryz.prog 177 (F177 S D) :=
  SpecOK.of (c := match Tryz.f177.body with | some c => c | none => .skip) (by kernel_rfl) hS hD ⟨Tryz.func177, rfl, by decide⟩
    (.seq .n (.seq (.seq .n (.dup .n .n)) (.seq .n (.seq (.seq .n (.one (.loop [0, 3, 4] [(.exit 0, [3])] (.seq (.seq .n (.dup .n .n)) (.seq (.one .n) .n))))) (.seq .n .n))))) 1 (fun args h => by kernel_rfl)
/-- slices.IndexFunc[[]int,int] -/
noncomputable def F178 (S : FS) (D : FD) (args : List AV) (h : Heap) : Option (Bool × AV × Heap) :=
 kv2 args fun s_1 f_2 =>
 ob (klenL s_1) fun v3 =>
 ob (iterD (fun vs4 ds5 h6 => kv4 vs4 fun s_7 f_8 v9 v10 =>
  ob (kbinI .lss v10 v9) fun v11 =>
  kif v11
   (ob (kia 1 s_7 v10) fun v12 =>
   ob (kload h6 v12) fun v13 =>
   ob (D f_8 [v13] h6) fun r14 => kres r14 (fun v15 h16 =>
   kif v15
    ((some ⟨2, [v10], ds5, h16⟩))
    (ob (kbinI .add v10 (.int .i64 (.ofNat 1))) fun v19 =>
    (some ⟨0, [s_7, f_8, v9, v19], ds5, h16⟩))) (fun p17 h18 => (some ⟨3, [p17], ds5, h18⟩)))
   ((some ⟨1, [], ds5, h6⟩))) rounds [s_1, f_2, v3, (.int .i64 (.ofNat 0))] [] h) fun r20 => kcase (J.i r20) [kv0 (J.vs r20) ((dleave (fun h21 => (some (false, (.int .i64 (.negSucc 0)), h21))) (J.ds r20) (J.h r20))),
 kv1 (J.vs r20) fun v22 =>
  (dleave (fun h23 => (some (false, v22, h23))) (J.ds r20) (J.h r20)),
 kv1 (J.vs r20) fun p24 => (kds (J.ds r20) (some (true, p24, (J.h r20))))]
theorem F178_ok {S : FS} {D : FD} (hS : SpecsOK Tryz.prog S) (hD : DynOK Tryz.prog D) : SpecOK Tryz.prog 178 (F178 S D) :=
  SpecOK.of (c := match Tryz.f178.body with | some c => c | none => .skip) (by kernel_rfl) hS hD ⟨Tryz.func178, rfl, by decide⟩
    (.seq .n (.seq (.seq .n (.one (.loop [0, 1, 7, 8] [(.exit 0, []), (.ret, [4]), (.pan, [])] (.seq .n (.seq (.dup .n .n) (.seq (.one (.seq .n (.seq .n (.dup (.seq .n .n) .n)))) .n)))))) (.seq .n .n))) 2 (fun args h => by kernel_rfl)
/-- roundhouse/cores.in -/
noncomputable def F179 (S : FS) (D : FD) (args : List AV) (h : Heap) : Option (Bool × AV × Heap) :=
 kv3 args fun n_1 least_2 most_3 =>
 ob (kbinI .geq n_1 least_2) fun v4 =>
 ob (kgv true v4 (some n_1)) fun v5 =>
 ob (kgv true v4 (some most_3)) fun v6 =>
 ob (kgv true v4 (kbinI .leq v5 v6)) fun v7 =>
 ob (kpick v4 v7 (.bool false)) fun v8 =>
 (some (false, v8, h))
theorem F179_ok {S : FS} {D : FD} (hS : SpecsOK Tryz.prog S) (hD : DynOK Tryz.prog D) : SpecOK Tryz.prog 179 (F179 S D) :=
  SpecOK.of (c := match Tryz.f179.body with | some c => c | none => .skip) (by kernel_rfl) hS hD ⟨Tryz.func179, rfl, by decide⟩
    (.seq .n (.seq .n .n)) 3 (fun args h => by kernel_rfl)
/-- (*roundhouse/ctl.Ctl).Submit$1 -/
noncomputable def F180 (S : FS) (D : FD) (args : List AV) (h : Heap) : Option (Bool × AV × Heap) :=
 kv1 args fun s_1 =>
 knt s_1 (Heap.pushK h (.cells (AV.cells s_1) true 64) fun h2 =>
 ob (kfa 0 (.ptr (Heap.next h) 0)) fun v3 =>
 ob (kload h2 v3) fun v4 =>
 ob (kfa 1 (.ptr (Heap.next h) 0)) fun v5 =>
 ob (kload h2 v5) fun v6 =>
 ob (kbinI .mul v4 v6) fun v7 =>
 ob (kbinI .gtr v7 (.int .i64 (.ofNat 256))) fun v8 =>
 (some (false, v8, h2)))
theorem F180_ok {S : FS} {D : FD} (hS : SpecsOK Tryz.prog S) (hD : DynOK Tryz.prog D) : SpecOK Tryz.prog 180 (F180 S D) :=
  SpecOK.of (c := match Tryz.f180.body with | some c => c | none => .skip) (by kernel_rfl) hS hD ⟨Tryz.func180, rfl, by decide⟩
    (.seq .n (.seq .n .n)) 1 (fun args h => by kernel_rfl)
/-- roundhouse/dag.Check -/
noncomputable def F181 (S : FS) (D : FD) (args : List AV) (h : Heap) : Option (Bool × AV × Heap) :=
 kv1 args fun l_1 =>
 ob (klenL l_1) fun v2 =>
 ob (S 224 [v2, (.int .i64 (.ofNat 1)), (.int .i64 (.ofNat 16))] h) fun r3 => kres r3 (fun v4 h5 =>
 ob (aun .not v4) fun v8 =>
 kif v8
  ((some (false, (.int .i64 (.ofNat 1)), h5)))
  (ob (klenL l_1) fun v9 =>
  ob (iterD (fun vs10 ds11 h12 => kv4 vs10 fun l_13 v14 v15 v16 =>
   ob (kbinI .lss v16 v15) fun v17 =>
   kif v17
    (ob (kia 5 v14 v16) fun v18 =>
    ob (kloadN 5 h12 v18) fun v19 =>
    Heap.pushK h12 (.cells [(.int .i64 (.ofNat 0)), (.int .i64 (.ofNat 0)), (.int .i64 (.ofNat 0)), (.int .i64 (.ofNat 0)), AV.nilslice] true 64) fun h20 =>
    ob (kstore 5 (.ptr (Heap.next h12) 0) v19 h20) fun h21 =>
    ob (kloadN 5 h21 (.ptr (Heap.next h12) 0)) fun v22 =>
    ob (klenL l_13) fun v23 =>
    ob (S 225 [v22, v16, v23] h21) fun r24 => kres r24 (fun v25 h26 =>
    ob (aun .not v25) fun v29 =>
    kif v29
     ((some ⟨2, [(.int .i64 (.ofNat 1))], ds11, h26⟩))
     (ob (kbinI .add v16 (.int .i64 (.ofNat 1))) fun v30 =>
     (some ⟨0, [l_13, v14, v15, v30], ds11, h26⟩))) (fun p27 h28 => (some ⟨3, [p27], ds11, h28⟩)))
    ((some ⟨1, [l_13], ds11, h12⟩))) rounds [l_1, l_1, v9, (.int .i64 (.ofNat 0))] [] h5) fun r31 => kcase (J.i r31) [kv1 (J.vs r31) fun l_32 =>
   ob (S 226 [l_32] (J.h r31)) fun r33 => kres r33 (fun v34 h35 =>
   ob (klenL v34) fun v38 =>
   ob (klenL l_32) fun v39 =>
   ob (kbinI .lss v38 v39) fun v40 =>
   kif v40
    ((dleave (fun h41 => (some (false, (.int .i64 (.ofNat 15)), h41))) (J.ds r31) h35))
    ((dleave (fun h42 => (some (false, (.int .i64 (.ofNat 0)), h42))) (J.ds r31) h35))) (fun p36 h37 => (kds (J.ds r31) (some (true, p36, h37)))),
  kv1 (J.vs r31) fun v43 =>
   (dleave (fun h44 => (some (false, v43, h44))) (J.ds r31) (J.h r31)),
  kv1 (J.vs r31) fun p45 => (kds (J.ds r31) (some (true, p45, (J.h r31))))])) (fun p6 h7 => (some (true, p6, h7)))
theorem F181_ok {S : FS} {D : FD} (hS : SpecsOK Tryz.prog S) (hD : DynOK Tryz.prog D) : SpecOK Tryz.prog 181 (F181 S D) :=
  SpecOK.of (c := match Tryz.f181.body with | some c => c | none => .skip) (by kernel_rfl) hS hD ⟨Tryz.func181, rfl, by decide⟩
    (.seq .n (.seq (.seq .n (.dup (.seq .n .n) .n)) (.seq (.seq .n (.one (.loop [0, 9, 10, 11] [(.exit 0, [0]), (.ret, [2]), (.pan, [])] (.seq .n (.seq (.dup .n .n) (.seq (.one (.seq .n (.seq .n (.dup (.seq .n .n) .n)))) .n)))))) (.seq (.seq .n (.dup (.seq .n .n) .n)) (.seq .n .n))))) 1 (fun args h => by kernel_rfl)
/-- roundhouse/ctl.nodes -/
noncomputable def F182 (S : FS) (D : FD) (args : List AV) (h : Heap) : Option (Bool × AV × Heap) :=
 kv1 args fun l_1 =>
 ob (S 227 [l_1] h) fun r2 => kres r2 (fun v3 h4 =>
 ob (kbinO Tryz.prog .neq 119 true v3 AV.nilptr) fun v7 =>
 (some (false, v7, h4))) (fun p5 h6 => (some (true, p5, h6)))
theorem F182_ok {S : FS} {D : FD} (hS : SpecsOK Tryz.prog S) (hD : DynOK Tryz.prog D) : SpecOK Tryz.prog 182 (F182 S D) :=
  SpecOK.of (c := match Tryz.f182.body with | some c => c | none => .skip) (by kernel_rfl) hS hD ⟨Tryz.func182, rfl, by decide⟩
    (.seq .n (.seq .n .n)) 1 (fun args h => by kernel_rfl)
/-- slices.ContainsFunc[[]roundhouse/api.Step,roundhouse/api.Step] -/
noncomputable def F183 (S : FS) (D : FD) (args : List AV) (h : Heap) : Option (Bool × AV × Heap) :=
 kv2 args fun s_1 f_2 =>
 ob (S 228 [s_1, f_2] h) fun r3 => kres r3 (fun v4 h5 =>
 ob (kbinI .geq v4 (.int .i64 (.ofNat 0))) fun v8 =>
 (some (false, v8, h5))) (fun p6 h7 => (some (true, p6, h7)))
theorem F183_ok {S : FS} {D : FD} (hS : SpecsOK Tryz.prog S) (hD : DynOK Tryz.prog D) : SpecOK Tryz.prog 183 (F183 S D) :=
  SpecOK.of (c := match Tryz.f183.body with | some c => c | none => .skip) (by kernel_rfl) hS hD ⟨Tryz.func183, rfl, by decide⟩
    (.seq .n (.seq .n .n)) 2 (fun args h => by kernel_rfl)
/-- (*roundhouse/ctl.job).begin -/
noncomputable def F184 (S : FS) (D : FD) (args : List AV) (h : Heap) : Option (Bool × AV × Heap) :=
 kv1 args fun x_1 =>
 ob (knil x_1) fun v2 =>
 ob (kfa 4 v2) fun v3 =>
 ob (kstore 1 v3 (.int .i64 (.ofNat 0)) h) fun h4 =>
 ob (knil x_1) fun v5 =>
 ob (kfa 5 v5) fun v6 =>
 ob (kstore 1 v6 (.int .i64 (.ofNat 0)) h4) fun h7 =>
 ob (knil x_1) fun v8 =>
 ob (kfa 6 v8) fun v9 =>
 ob (kstore 1 v9 (.int .i64 (.ofNat 0)) h7) fun h10 =>
 ob (abuildSlice Tryz.prog 37 1 [(0, (.int .i64 (.negSucc 0)))]) fun r11 => Heap.pushK h10 (.cells r11.1 true r11.2.2) fun h12 =>
 ob (knil x_1) fun v13 =>
 ob (kfa 0 v13) fun v14 =>
 ob (kfa 1 v14) fun v15 =>
 ob (kload h12 v15) fun v16 =>
 ob (klenL v16) fun v17 =>
 ob (S 229 [(.slice (Heap.next h10) 0 1 1 r11.2.1), v17] h12) fun r18 => kres r18 (fun v19 h20 =>
 ob (knil x_1) fun v23 =>
 ob (kfa 7 v23) fun v24 =>
 ob (kstore 1 v24 v19 h20) fun h25 =>
 ob (knil x_1) fun v26 =>
 ob (kfa 0 v26) fun v27 =>
 ob (kfa 1 v27) fun v28 =>
 ob (kload h25 v28) fun v29 =>
 ob (klenL v29) fun v30 =>
 ob (amakeSlice Tryz.prog 115 v30 v30) fun r31 => Heap.pushK h25 (.cells r31.1 true r31.2.2.2.2) fun h32 =>
 ob (knil x_1) fun v33 =>
 ob (kfa 8 v33) fun v34 =>
 ob (kstore 1 v34 (.slice (Heap.next h25) 0 r31.2.1 r31.2.2.1 r31.2.2.2.1) h32) fun h35 =>
 Heap.pushK h35 (.map [] [] 0) fun h36 =>
 Heap.pushK h36 (.map [] [] 0) fun h37 =>
 ob (knil x_1) fun v38 =>
 ob (kfa 9 v38) fun v39 =>
 ob (kstore 1 v39 (.map (Heap.next h35)) h37) fun h40 =>
 ob (knil x_1) fun v41 =>
 ob (kfa 10 v41) fun v42 =>
 ob (kstore 1 v42 (.map (Heap.next h36)) h40) fun h43 =>
 (some (false, (.tuple []), h43))) (fun p21 h22 => (some (true, p21, h22)))
theorem F184_ok {S : FS} {D : FD} (hS : SpecsOK Tryz.prog S) (hD : DynOK Tryz.prog D) : SpecOK Tryz.prog 184 (F184 S D) :=
  SpecOK.of (c := match Tryz.f184.body with | some c => c | none => .skip) (by kernel_rfl) hS hD ⟨Tryz.func184, rfl, by decide⟩
    (.seq .n (.seq .n (.seq .n .n))) 1 (fun args h => by kernel_rfl)
/-- (*roundhouse/agent.Agent).living -/
noncomputable def F185 (S : FS) (D : FD) (args : List AV) (h : Heap) : Option (Bool × AV × Heap) :=
 kv1 args fun a_1 =>
 knt a_1 (Heap.pushK h (.cells (AV.cells a_1) true 34) fun h2 =>
 (some (false, (.func 230 [(.ptr (Heap.next h) 0)]), h2)))
theorem F185_ok {S : FS} {D : FD} (hS : SpecsOK Tryz.prog S) (hD : DynOK Tryz.prog D) : SpecOK Tryz.prog 185 (F185 S D) :=
  SpecOK.of (c := match Tryz.f185.body with | some c => c | none => .skip) (by kernel_rfl) hS hD ⟨Tryz.func185, rfl, by decide⟩
    (.seq .n (.seq .n .n)) 1 (fun args h => by kernel_rfl)
/-- (*roundhouse/agent.Agent).plan -/
noncomputable def F186 (S : FS) (D : FD) (args : List AV) (h : Heap) : Option (Bool × AV × Heap) :=
 kv2 args fun a_1 x_2 =>
 knt x_2 (Heap.pushK h (.cells (AV.cells x_2) true 156) fun h3 =>
 Heap.pushK h3 (.cells [(.int .i64 (.ofNat 0)), (.int .i64 (.ofNat 0)), (.int .i64 (.ofNat 0)), (.int .i64 (.ofNat 0))] true 289) fun h4 =>
 Heap.pushK h4 (.cells [(.int .i64 (.ofNat 0)), (.int .i64 (.ofNat 0))] true 291) fun h5 =>
 ob (knil a_1) fun v6 =>
 ob (kfa 0 v6) fun v7 =>
 ob (kfa 3 v7) fun v8 =>
 ob (kload h5 v8) fun v9 =>
 ob (kfa 5 (.ptr (Heap.next h) 0)) fun v10 =>
 ob (kload h5 v10) fun v11 =>
 ob (kia 1 v11 (.int .i64 (.ofNat 0))) fun v12 =>
 ob (kload h5 v12) fun v13 =>
 ob (alookup Tryz.prog h5 77 v9 v13 false) fun v14 =>
 kfree h5 (Heap.pushK h5 (.cells [(.int .i64 (.ofNat 0)), (.int .i64 (.ofNat 0))] true 337) fun h15 =>
 ob (kstore 2 (.ptr (Heap.next h5) 0) v14 h15) fun h16 =>
 ob (kfa 5 (.ptr (Heap.next h) 0)) fun v17 =>
 ob (kload h16 v17) fun v18 =>
 ob (klenL v18) fun v19 =>
 ob (iterD (fun vs20 ds21 h22 => kv8 vs20 fun a_23 x_24 v25 v26 first_27 v28 v29 v30 =>
  ob (kbinI .lss v30 v29) fun v31 =>
  kif v31
   (ob (kia 1 v28 v30) fun v32 =>
   ob (kload h22 v32) fun v33 =>
   ob (kfa 0 first_27) fun v34 =>
   ob (kload h22 v34) fun v35 =>
   ob (knil a_23) fun v36 =>
   ob (kfa 0 v36) fun v37 =>
   ob (kfa 3 v37) fun v38 =>
   ob (kload h22 v38) fun v39 =>
   ob (alookup Tryz.prog h22 77 v39 v33 false) fun v40 =>
   ob (kfield false 0 1 v40) fun v41 =>
   ob (amaxs false [v35, v41]) fun v42 =>
   ob (kfa 0 first_27) fun v43 =>
   ob (kstore 1 v43 v42 h22) fun h44 =>
   ob (kbinI .add v30 (.int .i64 (.ofNat 1))) fun v45 =>
   (some ⟨0, [a_23, x_24, v25, v26, first_27, v28, v29, v45], ds21, h44⟩))
   ((some ⟨1, [a_23, x_24, v25, v26, first_27], ds21, h22⟩))) rounds [a_1, (.ptr (Heap.next h) 0), (.ptr (Heap.next h3) 0), (.ptr (Heap.next h4) 0), (.ptr (Heap.next h5) 0), v18, v19, (.int .i64 (.ofNat 0))] [] h16) fun r46 => kcase (J.i r46) [kv5 (J.vs r46) fun a_47 x_48 v49 v50 first_51 =>
  ob (kfa 0 first_51) fun v52 =>
  ob (kload (J.h r46) v52) fun v53 =>
  ob (abuild Tryz.prog 291 [(0, v53), (1, (.int .i64 (.negSucc 0)))]) fun v54 =>
  Heap.pushK (J.h r46) (.cells [(.int .i64 (.ofNat 0)), (.int .i64 (.ofNat 0))] true 291) fun h55 =>
  ob (kstore 2 (.ptr (Heap.next (J.h r46)) 0) v54 h55) fun h56 =>
  ob (knil a_47) fun v57 =>
  ob (kfa 17 v57) fun v58 =>
  ob (kload h56 v58) fun v59 =>
  ob (kloadN 6 h56 x_48) fun v60 =>
  ob (S 231 [v60] h56) fun r61 => kres r61 (fun v62 h63 =>
  kre (kload h63 v58) v59 (ob (alookup Tryz.prog h63 88 v59 v62 true) fun v66 =>
  ob (aextract v66 0) fun v67 =>
  ob (aextract v66 1) fun v68 =>
  ob (kif v68
   (ob (kfa 1 (.ptr (Heap.next (J.h r46)) 0)) fun v70 =>
   ob (kstore 1 v70 v67 h63) fun h71 =>
   (some ⟨0, [a_47, v49, v50, first_51, (.ptr (Heap.next (J.h r46)) 0)], (J.ds r46), h71⟩))
   ((some ⟨0, [a_47, v49, v50, first_51, (.ptr (Heap.next (J.h r46)) 0)], (J.ds r46), h63⟩))) fun r69 => kcase (J.i r69) [kv5 (J.vs r69) fun a_72 v73 v74 first_75 run_76 =>
   ob (kfa 1 first_75) fun v77 =>
   ob (kload (J.h r69) v77) fun v78 =>
   ob (knil a_72) fun v79 =>
   ob (kfa 5 v79) fun v80 =>
   ob (kfa 4 v80) fun v81 =>
   ob (kload (J.h r69) v81) fun v82 =>
   ob (knil a_72) fun v83 =>
   ob (kfa 5 v83) fun v84 =>
   ob (kfa 5 v84) fun v85 =>
   ob (kload (J.h r69) v85) fun v86 =>
   ob (abuild Tryz.prog 289 [(0, v78), (2, v82), (3, v86)]) fun v87 =>
   ob (kloadN 2 (J.h r69) run_76) fun v88 =>
   ob (kstore 4 v73 v87 (J.h r69)) fun h89 =>
   kre (kloadN 2 h89 run_76) v88 (ob (kstore 2 v74 v88 h89) fun h90 =>
   (dleave (fun h91 => ob (kloadN 4 h91 v73) fun v92 => ob (kloadN 2 h91 v74) fun v93 => (some (false, (.tuple [v92, v93]), h91))) (J.ds r69) h90))])) (fun p64 h65 => none)]))
theorem F186_ok {S : FS} {D : FD} (hS : SpecsOK Tryz.prog S) (hD : DynOK Tryz.prog D) : SpecOK Tryz.prog 186 (F186 S D) :=
  SpecOK.of (c := match Tryz.f186.body with | some c => c | none => .skip) (by kernel_rfl) hS hD ⟨Tryz.func186, rfl, by decide⟩
    (.seq .n (.seq .n (.seq (.seq .n (.one (.loop [0, 3, 4, 5, 6, 23, 24, 25] [(.exit 0, [0, 3, 4, 5, 6])] (.seq .n (.seq (.dup .n .n) (.seq (.one (.seq .n .n)) .n)))))) (.seq .n (.seq (.seq .n (.seq .n (.join [(.norm, [0, 4, 5, 6, 9])] (.dup .n .n)))) (.seq .n .n)))))) 2 (fun args h => by kernel_rfl)
/-- roundhouse/ladder.Between -/
noncomputable def F187 (S : FS) (D : FD) (args : List AV) (h : Heap) : Option (Bool × AV × Heap) :=
 kv4 args fun p_1 r_2 from_3 to_4 =>
 knt p_1 (Heap.pushK h (.cells (AV.cells p_1) true 289) fun h5 =>
 knt r_2 (Heap.pushK h5 (.cells (AV.cells r_2) true 291) fun h6 =>
 ob (kloadN 4 h6 (.ptr (Heap.next h) 0)) fun v7 =>
 ob (kloadN 2 h6 (.ptr (Heap.next h5) 0)) fun v8 =>
 ob (S 232 [v7, v8] h6) fun r9 => kres r9 (fun v10 h11 =>
 ob (aun .not v10) fun v14 =>
 kif v14
  ((some (false, AV.nilslice, h11)))
  (ob (kloadN 4 h11 (.ptr (Heap.next h) 0)) fun v15 =>
  ob (kloadN 2 h11 (.ptr (Heap.next h5) 0)) fun v16 =>
  ob (S 233 [v15, v16] h11) fun r17 => kres r17 (fun v18 h19 =>
  ob (iterD (fun vs22 ds23 h24 => kv5 vs22 fun from_25 to_26 stages_27 v28 v29 =>
   ob (kbinI .lss v29 (.int .i64 (.ofNat 5))) fun v30 =>
   kif v30
    (ob (kixA 5 false 1 v28 v29) fun v31 =>
    ob (kbinI .gtr v31 from_25) fun v32 =>
    ob (kgv true v32 (some v31)) fun v33 =>
    ob (kgv true v32 (some to_26)) fun v34 =>
    ob (kgv true v32 (kbinI .leq v33 v34)) fun v35 =>
    ob (kpick v32 v35 (.bool false)) fun v36 =>
    ob (kif v36
     (ob (abuildSlice Tryz.prog 37 1 [(0, v29)]) fun r38 => Heap.pushK h24 (.cells r38.1 true r38.2.2) fun h39 =>
     ob (aappend Tryz.prog h39 37 37 stages_27 (.slice (Heap.next h24) 0 1 1 r38.2.1)) fun r40 =>
     (some ⟨0, [from_25, to_26, r40.1, v28, v29], ds23, r40.2⟩))
     ((some ⟨0, [from_25, to_26, stages_27, v28, v29], ds23, h24⟩))) fun r37 => kcase (J.i r37) [kv5 (J.vs r37) fun from_41 to_42 stages_43 v44 v45 =>
     ob (kbinI .add v45 (.int .i64 (.ofNat 1))) fun v46 =>
     (some ⟨0, [from_41, to_42, stages_43, v44, v46], (J.ds r37), (J.h r37)⟩)])
    ((some ⟨1, [stages_27], ds23, h24⟩))) rounds [from_3, to_4, AV.nilslice, v18, (.int .i64 (.ofNat 0))] [] h19) fun r47 => kcase (J.i r47) [kv1 (J.vs r47) fun stages_48 =>
   (dleave (fun h49 => (some (false, stages_48, h49))) (J.ds r47) (J.h r47))]) (fun p20 h21 => (some (true, p20, h21))))) (fun p12 h13 => (some (true, p12, h13)))))
theorem F187_ok {S : FS} {D : FD} (hS : SpecsOK Tryz.prog S) (hD : DynOK Tryz.prog D) : SpecOK Tryz.prog 187 (F187 S D) :=
  SpecOK.of (c := match Tryz.f187.body with | some c => c | none => .skip) (by kernel_rfl) hS hD ⟨Tryz.func187, rfl, by decide⟩
    (.seq .n (.seq (.seq .n (.dup (.seq .n .n) .n)) (.seq .n (.seq (.seq .n (.one (.loop [2, 3, 9, 18, 19] [(.exit 0, [9])] (.seq .n (.seq (.dup .n .n) (.seq (.one (.seq .n (.seq .n (.join [(.norm, [2, 3, 9, 18, 19])] (.dup .n .n))))) .n)))))) (.seq .n .n))))) 4 (fun args h => by kernel_rfl)
/-- (*roundhouse/agent.Agent).signal -/
noncomputable def F188 (S : FS) (D : FD) (args : List AV) (h : Heap) : Option (Bool × AV × Heap) :=
 kv3 args fun a_1 pids_2 sig_3 =>
 ob (klenL pids_2) fun v4 =>
 ob (iterD (fun vs5 ds6 h7 => kv5 vs5 fun a_8 sig_9 v10 v11 v12 =>
  ob (kbinI .lss v12 v11) fun v13 =>
  kif v13
   (ob (kia 1 v10 v12) fun v14 =>
   ob (kload h7 v14) fun v15 =>
   ob (knil a_8) fun v16 =>
   ob (kfa 0 v16) fun v17 =>
   ob (kfa 1 v17) fun v18 =>
   ob (kload h7 v18) fun v19 =>
   ob (S 234 [v19, v15, sig_9] h7) fun r20 => kres r20 (fun v21 h22 =>
   ob (kbinI .add v12 (.int .i64 (.ofNat 1))) fun v25 =>
   (some ⟨0, [a_8, sig_9, v10, v11, v25], ds6, h22⟩)) (fun p23 h24 => (some ⟨2, [p23], ds6, h24⟩)))
   ((some ⟨1, [], ds6, h7⟩))) rounds [a_1, sig_3, pids_2, v4, (.int .i64 (.ofNat 0))] [] h) fun r26 => kcase (J.i r26) [kv0 (J.vs r26) ((dleave (fun h27 => (some (false, (.tuple []), h27))) (J.ds r26) (J.h r26))),
 kv1 (J.vs r26) fun p28 => (kds (J.ds r26) (some (true, p28, (J.h r26))))]
theorem F188_ok {S : FS} {D : FD} (hS : SpecsOK Tryz.prog S) (hD : DynOK Tryz.prog D) : SpecOK Tryz.prog 188 (F188 S D) :=
  SpecOK.of (c := match Tryz.f188.body with | some c => c | none => .skip) (by kernel_rfl) hS hD ⟨Tryz.func188, rfl, by decide⟩
    (.seq .n (.one (.loop [0, 2, 8, 9, 10] [(.exit 0, []), (.pan, [])] (.seq .n (.seq (.dup .n .n) (.seq (.one (.seq .n .n)) .n)))))) 3 (fun args h => by kernel_rfl)
/-- (*roundhouse/ctl.job).messages -/
noncomputable def F189 (S : FS) (D : FD) (args : List AV) (h : Heap) : Option (Bool × AV × Heap) :=
 kv3 args fun x_1 key_2 now_3 =>
 ob (knil x_1) fun v4 =>
 ob (kfa 4 v4) fun v5 =>
 ob (kload h v5) fun v6 =>
 ob (kbinI .eql v6 (.int .i64 (.ofNat 0))) fun v7 =>
 kif v7
  ((some (false, (.bfunc 235 [x_1]), h)))
  (ob (kbinI .eql v6 (.int .i64 (.ofNat 1))) fun v8 =>
  kif v8
   (ob (S 236 [x_1, key_2, now_3] h) fun r9 => kres r9 (fun v10 h11 =>
   (some (false, v10, h11))) (fun p12 h13 => (some (true, p12, h13))))
   (ob (kbinI .eql v6 (.int .i64 (.ofNat 2))) fun v14 =>
   kif v14
    ((some (false, (.bfunc 237 [x_1]), h)))
    ((some (false, (.func 238 []), h)))))
theorem F189_ok {S : FS} {D : FD} (hS : SpecsOK Tryz.prog S) (hD : DynOK Tryz.prog D) : SpecOK Tryz.prog 189 (F189 S D) :=
  SpecOK.of (c := match Tryz.f189.body with | some c => c | none => .skip) (by kernel_rfl) hS hD ⟨Tryz.func189, rfl, by decide⟩
    (.seq .n (.seq (.seq .n (.one (.seq .n (.dup (.seq .n .n) (.seq .n (.dup (.seq .n .n) (.seq .n (.dup (.seq .n .n) .n)))))))) (.seq .n .n))) 3 (fun args h => by kernel_rfl)
/-- roundhouse/wire.Encode -/
noncomputable def F190 (S : FS) (D : FD) (args : List AV) (h : Heap) : Option (Bool × AV × Heap) :=
 kv1 args fun m_1 =>
 knt m_1 (Heap.pushK h (.cells (AV.cells m_1) true 300) fun h2 =>
 ob (kloadN 8 h2 (.ptr (Heap.next h) 0)) fun v3 =>
 ob (S 239 [v3] h2) fun r4 => kres r4 (fun v5 h6 =>
 ob (aun .not v5) fun v9 =>
 kif v9
  ((some (false, (.str 0 0), h6)))
  (Heap.pushK h6 (.cells [AV.nilptr, AV.nilslice] true 347) fun h10 =>
  ob (kfa 0 (.ptr (Heap.next h) 0)) fun v11 =>
  ob (kload h10 v11) fun v12 =>
  ob (kfa 1 (.ptr (Heap.next h) 0)) fun v13 =>
  ob (kload h10 v13) fun v14 =>
  ob (kbinI .add v14 (.int .i64 (.ofNat 1))) fun v15 =>
  ob (kfa 2 (.ptr (Heap.next h) 0)) fun v16 =>
  ob (kload h10 v16) fun v17 =>
  ob (kbinI .add v17 (.int .i64 (.ofNat 1))) fun v18 =>
  ob (kfa 3 (.ptr (Heap.next h) 0)) fun v19 =>
  ob (kload h10 v19) fun v20 =>
  ob (kfa 4 (.ptr (Heap.next h) 0)) fun v21 =>
  ob (kload h10 v21) fun v22 =>
  ob (kfa 5 (.ptr (Heap.next h) 0)) fun v23 =>
  ob (kload h10 v23) fun v24 =>
  ob (kfa 6 (.ptr (Heap.next h) 0)) fun v25 =>
  ob (kload h10 v25) fun v26 =>
  ob (abuild Tryz.prog 348 [(0, v12), (1, v15), (2, v18), (3, v20), (4, v22), (5, v24), (6, v26)]) fun v27 =>
  ob (iterD (fun vs28 ds29 h30 => kv4 vs28 fun m_31 out_32 v33 v34 =>
   ob (kbinI .lss v34 (.int .i64 (.ofNat 7))) fun v35 =>
   kif v35
    (ob (kixA 7 false 1 v33 v34) fun v36 =>
    ob (S 241 [v36] h30) fun r37 => kres r37 (fun v38 h39 =>
    ob (S 240 [out_32, v38] h39) fun r42 => kres r42 (fun v43 h44 =>
    ob (kbinI .add v34 (.int .i64 (.ofNat 1))) fun v47 =>
    (some ⟨0, [m_31, out_32, v33, v47], ds29, h44⟩)) (fun p45 h46 => (some ⟨2, [p45], ds29, h46⟩))) (fun p40 h41 => (some ⟨2, [p40], ds29, h41⟩)))
    ((some ⟨1, [m_31, out_32], ds29, h30⟩))) rounds [(.ptr (Heap.next h) 0), (.ptr (Heap.next h6) 0), v27, (.int .i64 (.ofNat 0))] [] h10) fun r48 => kcase (J.i r48) [kv2 (J.vs r48) fun m_49 out_50 =>
   ob (kfa 7 m_49) fun v51 =>
   ob (kload (J.h r48) v51) fun v52 =>
   ob (S 242 [out_50] (J.h r48)) fun r53 => kres r53 (fun v54 h55 =>
   kre (kload h55 v51) v52 (ob (S 243 [v52] h55) fun r58 => kres r58 (fun v59 h60 =>
   ob (kbinS .add v54 v59) fun v63 =>
   (dleave (fun h64 => (some (false, v63, h64))) (J.ds r48) h60)) (fun p61 h62 => (kds (J.ds r48) (some (true, p61, h62)))))) (fun p56 h57 => none),
  kv1 (J.vs r48) fun p65 => (kds (J.ds r48) (some (true, p65, (J.h r48))))])) (fun p7 h8 => (some (true, p7, h8))))
theorem F190_ok {S : FS} {D : FD} (hS : SpecsOK Tryz.prog S) (hD : DynOK Tryz.prog D) : SpecOK Tryz.prog 190 (F190 S D) :=
  SpecOK.of (c := match Tryz.f190.body with | some c => c | none => .skip) (by kernel_rfl) hS hD ⟨Tryz.func190, rfl, by decide⟩
    (.seq .n (.seq (.seq .n (.dup (.seq .n .n) .n)) (.seq .n (.seq (.seq .n (.one (.loop [1, 3, 25, 26] [(.exit 0, [1, 3]), (.pan, [])] (.seq .n (.seq (.dup .n .n) (.seq (.one (.seq .n .n)) .n)))))) (.seq .n .n))))) 1 (fun args h => by kernel_rfl)
/-- (*roundhouse/net.Net).Take -/
noncomputable def F191 (S : FS) (D : FD) (args : List AV) (h : Heap) : Option (Bool × AV × Heap) :=
 kv2 args fun n_1 i_2 =>
 ob (S 195 [n_1, i_2] h) fun r3 => kres r3 (fun v4 h5 =>
 ob (kbinI .lss v4 (.int .i64 (.ofNat 0))) fun v8 =>
 kif v8
  ((some (false, (.tuple [(.str 0 0), (.bool false)]), h5)))
  (ob (knil n_1) fun v9 =>
  ob (kfa 2 v9) fun v10 =>
  ob (kload h5 v10) fun v11 =>
  ob (S 244 [v11, v4] h5) fun r12 => kres r12 (fun v13 h14 =>
  ob (aextract v13 0) fun v17 =>
  ob (aextract v13 1) fun v18 =>
  ob (knil n_1) fun v19 =>
  ob (kfa 2 v19) fun v20 =>
  ob (kstore 1 v20 v17 h14) fun h21 =>
  (some (false, (.tuple [v18, (.bool true)]), h21))) (fun p15 h16 => (some (true, p15, h16))))) (fun p6 h7 => (some (true, p6, h7)))
theorem F191_ok {S : FS} {D : FD} (hS : SpecsOK Tryz.prog S) (hD : DynOK Tryz.prog D) : SpecOK Tryz.prog 191 (F191 S D) :=
  SpecOK.of (c := match Tryz.f191.body with | some c => c | none => .skip) (by kernel_rfl) hS hD ⟨Tryz.func191, rfl, by decide⟩
    (.seq .n (.seq .n (.seq (.seq .n (.dup (.seq .n .n) .n)) (.seq .n (.seq .n (.seq .n .n)))))) 2 (fun args h => by kernel_rfl)
/-- roundhouse/wire.Decode -/
noncomputable def F192 (S : FS) (D : FD) (args : List AV) (h : Heap) : Option (Bool × AV × Heap) :=
 kv1 args fun s_1 =>
 Heap.pushK h (.cells [(.int .i64 (.ofNat 0)), (.int .i64 (.ofNat 0)), (.int .i64 (.ofNat 0)), (.int .i64 (.ofNat 0)), (.int .i64 (.ofNat 0)), (.int .i64 (.ofNat 0)), (.int .i64 (.ofNat 0)), (.str 0 0)] true 300) fun h2 =>
 ob (S 106 [s_1] h2) fun r3 => kres r3 (fun v4 h5 =>
 ob (S 107 [v4] h5) fun r8 => kres r8 (fun v9 h10 =>
 ob (S 107 [v4] h10) fun r13 => kres r13 (fun v14 h15 =>
 ob (kbinI .sub v14 (.int .i64 (.ofNat 1))) fun v18 =>
 ob (S 107 [v4] h15) fun r19 => kres r19 (fun v20 h21 =>
 ob (kbinI .sub v20 (.int .i64 (.ofNat 1))) fun v24 =>
 ob (S 107 [v4] h21) fun r25 => kres r25 (fun v26 h27 =>
 ob (S 107 [v4] h27) fun r30 => kres r30 (fun v31 h32 =>
 ob (S 107 [v4] h32) fun r35 => kres r35 (fun v36 h37 =>
 ob (S 107 [v4] h37) fun r40 => kres r40 (fun v41 h42 =>
 ob (S 207 [v4] h42) fun r45 => kres r45 (fun v46 h47 =>
 ob (abuild Tryz.prog 300 [(0, v9), (1, v18), (2, v24), (3, v26), (4, v31), (5, v36), (6, v41), (7, v46)]) fun v50 =>
 Heap.pushK h47 (.cells [(.int .i64 (.ofNat 0)), (.int .i64 (.ofNat 0)), (.int .i64 (.ofNat 0)), (.int .i64 (.ofNat 0)), (.int .i64 (.ofNat 0)), (.int .i64 (.ofNat 0)), (.int .i64 (.ofNat 0)), (.str 0 0)] true 300) fun h51 =>
 ob (kstore 8 (.ptr (Heap.next h47) 0) v50 h51) fun h52 =>
 ob (S 109 [v4] h52) fun r53 => kres r53 (fun v54 h55 =>
 ob (aextract v54 0) fun v58 =>
 ob (aextract v54 1) fun v59 =>
 ob (kbinI .neq v58 (.int .i64 (.ofNat 0))) fun v60 =>
 kif v60
  (ob (abuild Tryz.prog 300 []) fun v61 =>
  ob (kstore 8 (.ptr (Heap.next h) 0) v61 h55) fun h62 =>
  ob (kloadN 8 h62 (.ptr (Heap.next h) 0)) fun v63 => (some (false, (.tuple [v63, v58]), h62)))
  (ob (kloadN 8 h55 (.ptr (Heap.next h47) 0)) fun v64 =>
  ob (S 239 [v64] h55) fun r65 => kres r65 (fun v66 h67 =>
  ob (aun .not v66) fun v70 =>
  kif v70
   (ob (abuild Tryz.prog 300 []) fun v71 =>
   ob (kstore 8 (.ptr (Heap.next h) 0) v71 h67) fun h72 =>
   ob (kloadN 8 h72 (.ptr (Heap.next h) 0)) fun v73 => (some (false, (.tuple [v73, (.int .i64 (.ofNat 5))]), h72)))
   (ob (kloadN 8 h67 (.ptr (Heap.next h47) 0)) fun v74 =>
   ob (kstore 8 (.ptr (Heap.next h) 0) v74 h67) fun h75 =>
   ob (kloadN 8 h75 (.ptr (Heap.next h) 0)) fun v76 => (some (false, (.tuple [v76, (.int .i64 (.ofNat 0))]), h75)))) (fun p68 h69 => (some (true, p68, h69))))) (fun p56 h57 => (some (true, p56, h57)))) (fun p48 h49 => (some (true, p48, h49)))) (fun p43 h44 => (some (true, p43, h44)))) (fun p38 h39 => (some (true, p38, h39)))) (fun p33 h34 => (some (true, p33, h34)))) (fun p28 h29 => (some (true, p28, h29)))) (fun p22 h23 => (some (true, p22, h23)))) (fun p16 h17 => (some (true, p16, h17)))) (fun p11 h12 => (some (true, p11, h12)))) (fun p6 h7 => (some (true, p6, h7)))
theorem F192_ok {S : FS} {D : FD} (hS : SpecsOK Tryz.prog S) (hD : DynOK Tryz.prog D) : SpecOK Tryz.prog 192 (F192 S D) :=
  SpecOK.of (c := match Tryz.f192.body with | some c => c | none => .skip) (by kernel_rfl) hS hD ⟨Tryz.func192, rfl, by decide⟩
    (.seq .n (.seq .n (.seq .n (.seq (.seq .n (.seq .n (.dup (.seq .n .n) .n))) (.seq (.seq .n (.dup (.seq .n .n) .n)) (.seq .n .n)))))) 1 (fun args h => by kernel_rfl)
/-- (*roundhouse/ctl.Ctl).Deliver -/
noncomputable def F193 (S : FS) (D : FD) (args : List AV) (h : Heap) : Option (Bool × AV × Heap) :=
 kv2 args fun c_1 s_2 =>
 ob (S 192 [s_2] h) fun r3 => kres r3 (fun v4 h5 =>
 ob (aextract v4 0) fun v8 =>
 ob (aextract v4 1) fun v9 =>
 Heap.pushK h5 (.cells [(.int .i64 (.ofNat 0)), (.int .i64 (.ofNat 0)), (.int .i64 (.ofNat 0)), (.int .i64 (.ofNat 0)), (.int .i64 (.ofNat 0)), (.int .i64 (.ofNat 0)), (.int .i64 (.ofNat 0)), (.str 0 0)] true 300) fun h10 =>
 ob (kstore 8 (.ptr (Heap.next h5) 0) v8 h10) fun h11 =>
 ob (kfa 3 (.ptr (Heap.next h5) 0)) fun v12 =>
 ob (kload h11 v12) fun v13 =>
 ob (S 39 [c_1, v13] h11) fun r14 => kres r14 (fun v15 h16 =>
 ob (kbinI .neq v9 (.int .i64 (.ofNat 0))) fun v19 =>
 ob (kgv false v19 (some v15)) fun v20 =>
 ob (kgv false v19 (kbinO Tryz.prog .eql 113 true v20 AV.nilptr)) fun v21 =>
 ob (kpick v19 (.bool true) v21) fun v22 =>
 ob (kgv false v22 (kfa 2 (.ptr (Heap.next h5) 0))) fun v23 =>
 ob (kgv false v22 (kload h16 v23)) fun v24 =>
 ob (kgv false v22 (kbinI .neq v24 (.int .i64 (.negSucc 0)))) fun v25 =>
 ob (kpick v22 (.bool true) v25) fun v26 =>
 ob (kgv false v26 (kfa 4 (.ptr (Heap.next h5) 0))) fun v27 =>
 ob (kgv false v26 (kload h16 v27)) fun v28 =>
 ob (kgv false v26 (some v15)) fun v29 =>
 ob (kgv false v26 (knil v29)) fun v30 =>
 ob (kgv false v26 (kfa 3 v30)) fun v31 =>
 ob (kgv false v26 (kload h16 v31)) fun v32 =>
 ob (kgv false v26 (kbinI .neq v28 v32)) fun v33 =>
 ob (kpick v26 (.bool true) v33) fun v34 =>
 ob (kgv false v34 (some v15)) fun v35 =>
 ob (kgv false v34 (knil v35)) fun v36 =>
 ob (kgv false v34 (kfa 0 v36)) fun v37 =>
 ob (kgv false v34 (kfa 0 v37)) fun v38 =>
 ob (kgv false v34 (kload h16 v38)) fun v39 =>
 ob (kgv false v34 (kfa 1 (.ptr (Heap.next h5) 0))) fun v40 =>
 ob (kgv false v34 (kload h16 v40)) fun v41 =>
 ob (kgc false v34 h16 (S 114 [v39, v41] h16)) fun r42 => kres r42 (fun v43 h44 =>
 ob (kgv false v34 (aun .not v43)) fun v47 =>
 ob (kpick v34 (.bool true) v47) fun v48 =>
 kif v48
  ((some (false, (.bool false), h44)))
  (ob (kfa 0 (.ptr (Heap.next h5) 0)) fun v49 =>
  ob (kload h44 v49) fun v50 =>
  ob (kbinI .eql v50 (.int .i64 (.ofNat 1))) fun v51 =>
  ob (kgv true v51 (some v15)) fun v52 =>
  ob (kgv true v51 (knil v52)) fun v53 =>
  ob (kgv true v51 (kfa 4 v53)) fun v54 =>
  ob (kgv true v51 (kload h44 v54)) fun v55 =>
  ob (kgv true v51 (kbinI .eql v55 (.int .i64 (.ofNat 0)))) fun v56 =>
  ob (kpick v51 v56 (.bool false)) fun v57 =>
  ob (kif v57
   (ob (kfa 1 (.ptr (Heap.next h5) 0)) fun v59 =>
   ob (kload h44 v59) fun v60 =>
   ob (kfa 6 (.ptr (Heap.next h5) 0)) fun v61 =>
   ob (kload h44 v61) fun v62 =>
   ob (S 245 [v15, v60, v62] h44) fun r63 => kres r63 (fun v64 h65 =>
   (some ⟨0, [], [], h65⟩)) (fun p66 h67 => (some ⟨2, [p66], [], h67⟩)))
   (ob (kfa 0 (.ptr (Heap.next h5) 0)) fun v68 =>
   ob (kload h44 v68) fun v69 =>
   ob (kbinI .eql v69 (.int .i64 (.ofNat 3))) fun v70 =>
   ob (kgv false v70 (kfa 0 (.ptr (Heap.next h5) 0))) fun v71 =>
   ob (kgv false v70 (kload h44 v71)) fun v72 =>
   ob (kgv false v70 (kbinI .eql v72 (.int .i64 (.ofNat 6)))) fun v73 =>
   ob (kpick v70 (.bool true) v73) fun v74 =>
   ob (kgv true v74 (some v15)) fun v75 =>
   ob (kgv true v74 (knil v75)) fun v76 =>
   ob (kgv true v74 (kfa 4 v76)) fun v77 =>
   ob (kgv true v74 (kload h44 v77)) fun v78 =>
   ob (kgv true v74 (kbinI .eql v78 (.int .i64 (.ofNat 1)))) fun v79 =>
   ob (kpick v74 v79 (.bool false)) fun v80 =>
   kif v80
    (ob (kloadN 8 h44 (.ptr (Heap.next h5) 0)) fun v81 =>
    ob (S 246 [v15, v81] h44) fun r82 => kres r82 (fun v83 h84 =>
    (some ⟨1, [v83], [], h84⟩)) (fun p85 h86 => (some ⟨2, [p85], [], h86⟩)))
    (ob (kfa 0 (.ptr (Heap.next h5) 0)) fun v87 =>
    ob (kload h44 v87) fun v88 =>
    ob (kbinI .eql v88 (.int .i64 (.ofNat 9))) fun v89 =>
    ob (kgv true v89 (some v15)) fun v90 =>
    ob (kgv true v89 (knil v90)) fun v91 =>
    ob (kgv true v89 (kfa 4 v91)) fun v92 =>
    ob (kgv true v89 (kload h44 v92)) fun v93 =>
    ob (kgv true v89 (kbinI .eql v93 (.int .i64 (.ofNat 2)))) fun v94 =>
    ob (kpick v89 v94 (.bool false)) fun v95 =>
    kif v95
     (ob (kfa 1 (.ptr (Heap.next h5) 0)) fun v96 =>
     ob (kload h44 v96) fun v97 =>
     ob (S 247 [v15, v97] h44) fun r98 => kres r98 (fun v99 h100 =>
     (some ⟨0, [], [], h100⟩)) (fun p101 h102 => (some ⟨2, [p101], [], h102⟩)))
     ((some ⟨1, [(.bool false)], [], h44⟩))))) fun r58 => kcase (J.i r58) [kv0 (J.vs r58) ((dleave (fun h103 => (some (false, (.bool true), h103))) (J.ds r58) (J.h r58))),
  kv1 (J.vs r58) fun v104 =>
   (dleave (fun h105 => (some (false, v104, h105))) (J.ds r58) (J.h r58)),
  kv1 (J.vs r58) fun p106 => (kds (J.ds r58) (some (true, p106, (J.h r58))))])) (fun p45 h46 => (some (true, p45, h46)))) (fun p17 h18 => (some (true, p17, h18)))) (fun p6 h7 => (some (true, p6, h7)))
theorem F193_ok {S : FS} {D : FD} (hS : SpecsOK Tryz.prog S) (hD : DynOK Tryz.prog D) : SpecOK Tryz.prog 193 (F193 S D) :=
  SpecOK.of (c := match Tryz.f193.body with | some c => c | none => .skip) (by kernel_rfl) hS hD ⟨Tryz.func193, rfl, by decide⟩
    (.seq .n (.seq .n (.seq .n (.seq (.seq .n (.dup (.seq .n .n) .n)) (.seq (.one (.seq .n (.join [(.norm, []), (.ret, [4]), (.pan, [])] (.dup .n (.seq .n (.dup (.seq .n .n) (.seq .n (.dup .n (.seq .n .n))))))))) (.seq .n .n)))))) 2 (fun args h => by kernel_rfl)
/-- (*roundhouse/agent.Agent).Deliver -/
noncomputable def F194 (S : FS) (D : FD) (args : List AV) (h : Heap) : Option (Bool × AV × Heap) :=
 kv3 args fun a_1 s_2 c_3 =>
 knt c_3 (Heap.pushK h (.cells (AV.cells c_3) true 237) fun h4 =>
 ob (S 192 [s_2] h4) fun r5 => kres r5 (fun v6 h7 =>
 ob (aextract v6 0) fun v10 =>
 ob (aextract v6 1) fun v11 =>
 Heap.pushK h7 (.cells [(.int .i64 (.ofNat 0)), (.int .i64 (.ofNat 0)), (.int .i64 (.ofNat 0)), (.int .i64 (.ofNat 0)), (.int .i64 (.ofNat 0)), (.int .i64 (.ofNat 0)), (.int .i64 (.ofNat 0)), (.str 0 0)] true 300) fun h12 =>
 ob (kstore 8 (.ptr (Heap.next h7) 0) v10 h12) fun h13 =>
 ob (S 14 [a_1] h13) fun r14 => kres r14 (fun v15 h16 =>
 ob (kgv false v15 (some v11)) fun v19 =>
 ob (kgv false v15 (kbinI .neq v19 (.int .i64 (.ofNat 0)))) fun v20 =>
 ob (kpick v15 (.bool true) v20) fun v21 =>
 kif v21
  ((some (false, AV.nilslice, h16)))
  (Heap.pushK h16 (.cells [(.int .i64 (.ofNat 0)), AV.nilslice, (.int .i64 (.ofNat 0)), (.bool false)] true 358) fun h22 =>
  ob (kfa 2 (.ptr (Heap.next h7) 0)) fun v23 =>
  ob (kload h22 v23) fun v24 =>
  ob (knil a_1) fun v25 =>
  ob (kfa 5 v25) fun v26 =>
  ob (kfa 0 v26) fun v27 =>
  ob (kload h22 v27) fun v28 =>
  ob (kbinI .eql v24 v28) fun v29 =>
  ob (kgv true v29 (some a_1)) fun v30 =>
  ob (kgv true v29 (knil v30)) fun v31 =>
  ob (kgv true v29 (kfa 12 v31)) fun v32 =>
  ob (kgv true v29 (kloadN 3 h22 v32)) fun v33 =>
  ob (kgv true v29 (kloadN 8 h22 (.ptr (Heap.next h7) 0))) fun v34 =>
  ob (kgc true v29 h22 (S 248 [v33, v34] h22)) fun r35 => kres r35 (fun v36 h37 =>
  ob (kpick v29 v36 (.bool false)) fun v40 =>
  ob (kif v40
   (ob (kloadN 8 h37 (.ptr (Heap.next h7) 0)) fun v42 =>
   ob (kfa 1 (.ptr (Heap.next h) 0)) fun v43 =>
   ob (kload h37 v43) fun v44 =>
   ob (S 249 [a_1, v42, v44] h37) fun r45 => kres r45 (fun v46 h47 =>
   ob (kstore 4 (.ptr (Heap.next h16) 0) v46 h47) fun h50 =>
   (some ⟨0, [a_1, (.ptr (Heap.next h) 0), (.ptr (Heap.next h7) 0), (.ptr (Heap.next h16) 0)], [], h50⟩)) (fun p48 h49 => (some ⟨1, [p48], [], h49⟩)))
   ((some ⟨0, [a_1, (.ptr (Heap.next h) 0), (.ptr (Heap.next h7) 0), (.ptr (Heap.next h16) 0)], [], h37⟩))) fun r41 => kcase (J.i r41) [kv4 (J.vs r41) fun a_51 c_52 m_53 f_54 =>
   ob (kfa 0 c_52) fun v55 =>
   ob (kload (J.h r41) v55) fun v56 =>
   ob (kloadN 8 (J.h r41) m_53) fun v57 =>
   ob (kfa 2 f_54) fun v58 =>
   ob (S 250 [a_51, v57] (J.h r41)) fun r59 => kres r59 (fun v60 h61 =>
   kre (kload h61 v55) v56 (ob (kstore 1 v58 v56 h61) fun h64 =>
   ob (kfa 3 f_54) fun v65 =>
   ob (kstore 1 v65 v60 h64) fun h66 =>
   ob (kfa 2 f_54) fun v67 =>
   ob (kload h66 v67) fun v68 =>
   ob (S 78 [v68, (.int .i64 (.ofNat 0)), (.int .i64 (.ofNat 255))] h66) fun r69 => kres r69 (fun v70 h71 =>
   ob (aun .not v70) fun v74 =>
   ob (kif v74
    (ob (kfa 2 f_54) fun v76 =>
    ob (kstore 1 v76 (.int .i64 (.ofNat 1)) h71) fun h77 =>
    (some ⟨0, [a_51, c_52, m_53, f_54], (J.ds r41), h77⟩))
    ((some ⟨0, [a_51, c_52, m_53, f_54], (J.ds r41), h71⟩))) fun r75 => kcase (J.i r75) [kv4 (J.vs r75) fun a_78 c_79 m_80 f_81 =>
    ob (knil a_78) fun v82 =>
    ob (kfa 5 v82) fun v83 =>
    ob (kfa 0 v83) fun v84 =>
    ob (kload (J.h r75) v84) fun v85 =>
    ob (knil a_78) fun v86 =>
    ob (kfa 12 v86) fun v87 =>
    ob (kloadN 3 (J.h r75) v87) fun v88 =>
    ob (kloadN 8 (J.h r75) m_80) fun v89 =>
    ob (kloadN 4 (J.h r75) f_81) fun v90 =>
    kfree (J.h r75) (Heap.pushK (J.h r75) (.cells [(.bool false), (.int .i64 (.ofNat 0)), (.int .i64 (.ofNat 0)), (.int .i64 (.ofNat 0)), (.int .i64 (.ofNat 0)), (.int .i64 (.ofNat 0)), AV.nilslice, (.bool false), (.int .i64 (.ofNat 0)), (.int .i64 (.ofNat 0)), (.int .i64 (.ofNat 0)), (.int .i64 (.ofNat 0)), (.int .i64 (.ofNat 0)), (.int .i64 (.ofNat 0)), (.int .i64 (.ofNat 0)), (.str 0 0), (.bool false), (.bool false), (.bool false)] true 362) fun h91 =>
    ob (S 251 [v85, v88, v89, v90] h91) fun r92 => kres r92 (fun v93 h94 =>
    kro (Heap.next (J.h r75)) h91 h94 (ob (aextract v93 0) fun v97 =>
    ob (aextract v93 1) fun v98 =>
    ob (kstore 19 (.ptr (Heap.next (J.h r75)) 0) v97 h94) fun h99 =>
    ob (kbinI .neq v98 (.int .i64 (.ofNat 0))) fun v100 =>
    ob (kgv false v100 (kfa 0 (.ptr (Heap.next (J.h r75)) 0))) fun v101 =>
    ob (kgv false v100 (kload h99 v101)) fun v102 =>
    ob (kgv false v100 (some v102)) fun v103 =>
    ob (kgv true v103 (some a_78)) fun v104 =>
    ob (kgv true v103 (kfa 1 (.ptr (Heap.next (J.h r75)) 0))) fun v105 =>
    ob (kgv true v103 (kloadN 6 h99 v105)) fun v106 =>
    ob (kgv true v103 (kfa 2 c_79)) fun v107 =>
    ob (kgv true v103 (kload h99 v107)) fun v108 =>
    ob (kgc true v103 h99 (S 252 [v104, v106, v108] h99)) fun r109 => kres r109 (fun v110 h111 =>
    ob (kgv true v103 (aun .not v110)) fun v114 =>
    ob (kgv false v100 (kpick v103 v114 (.bool false))) fun v115 =>
    ob (kpick v100 (.bool true) v115) fun v116 =>
    kif v116
     ((dleave (fun h117 => (some (false, AV.nilslice, h117))) (J.ds r75) h111))
     (ob (kloadN 19 h111 (.ptr (Heap.next (J.h r75)) 0)) fun v118 =>
     ob (kloadN 8 h111 m_80) fun v119 =>
     ob (S 253 [a_78, v118, v119] h111) fun r120 => kres r120 (fun v121 h122 =>
     ob (kloadN 19 h122 (.ptr (Heap.next (J.h r75)) 0)) fun v125 =>
     ob (S 254 [v125] h122) fun r126 => kres r126 (fun v127 h128 =>
     (dleave (fun h131 => (some (false, v127, h131))) (J.ds r75) h128)) (fun p129 h130 => (kds (J.ds r75) (some (true, p129, h130))))) (fun p123 h124 => (kds (J.ds r75) (some (true, p123, h124)))))) (fun p112 h113 => (kds (J.ds r75) (some (true, p112, h113)))))) (fun p95 h96 => none))]) (fun p72 h73 => (kds (J.ds r41) (some (true, p72, h73)))))) (fun p62 h63 => none),
  kv1 (J.vs r41) fun p132 => (kds (J.ds r41) (some (true, p132, (J.h r41))))]) (fun p38 h39 => (some (true, p38, h39))))) (fun p17 h18 => (some (true, p17, h18)))) (fun p8 h9 => (some (true, p8, h9))))
theorem F194_ok {S : FS} {D : FD} (hS : SpecsOK Tryz.prog S) (hD : DynOK Tryz.prog D) : SpecOK Tryz.prog 194 (F194 S D) :=
  SpecOK.of (c := match Tryz.f194.body with | some c => c | none => .skip) (by kernel_rfl) hS hD ⟨Tryz.func194, rfl, by decide⟩
    (.seq .n (.seq .n (.seq (.seq .n (.dup (.seq .n .n) .n)) (.seq .n (.seq (.seq .n (.join [(.norm, [0, 5, 7, 9]), (.pan, [])] (.dup .n .n))) (.seq .n (.seq (.seq .n (.join [(.norm, [0, 5, 7, 9])] (.dup .n .n))) (.seq .n (.seq (.seq .n (.dup (.seq .n .n) .n)) (.seq .n (.seq .n .n))))))))))) 3 (fun args h => by kernel_rfl)
/-- (*roundhouse/net.Net).place -/
noncomputable def F195 (S : FS) (D : FD) (args : List AV) (h : Heap) : Option (Bool × AV × Heap) :=
 kv2 args fun n_1 i_2 =>
 ob (kbinO Tryz.prog .eql 70 true n_1 AV.nilptr) fun v3 =>
 ob (kgv false v3 (some n_1)) fun v4 =>
 ob (kgv false v3 (knil v4)) fun v5 =>
 ob (kgv false v3 (kfa 2 v5)) fun v6 =>
 ob (kgv false v3 (kload h v6)) fun v7 =>
 ob (kgv false v3 (klenL v7)) fun v8 =>
 ob (kgv false v3 (kbinI .eql v8 (.int .i64 (.ofNat 0)))) fun v9 =>
 ob (kpick v3 (.bool true) v9) fun v10 =>
 kif v10
  ((some (false, (.int .i64 (.negSucc 0)), h)))
  (ob (knil n_1) fun v11 =>
  ob (kfa 2 v11) fun v12 =>
  ob (kload h v12) fun v13 =>
  ob (klenL v13) fun v14 =>
  ob (kbinI .rem i_2 v14) fun v15 =>
  ob (kbinI .lss v15 (.int .i64 (.ofNat 0))) fun v16 =>
  ob (kif v16
   (ob (knil n_1) fun v18 =>
   ob (kfa 2 v18) fun v19 =>
   ob (kload h v19) fun v20 =>
   ob (klenL v20) fun v21 =>
   ob (kbinI .add v15 v21) fun v22 =>
   (some ⟨0, [v22], [], h⟩))
   ((some ⟨0, [v15], [], h⟩))) fun r17 => kcase (J.i r17) [kv1 (J.vs r17) fun at_23 =>
   (dleave (fun h24 => (some (false, at_23, h24))) (J.ds r17) (J.h r17))])
theorem F195_ok {S : FS} {D : FD} (hS : SpecsOK Tryz.prog S) (hD : DynOK Tryz.prog D) : SpecOK Tryz.prog 195 (F195 S D) :=
  SpecOK.of (c := match Tryz.f195.body with | some c => c | none => .skip) (by kernel_rfl) hS hD ⟨Tryz.func195, rfl, by decide⟩
    (.seq .n (.seq (.seq .n (.dup (.seq .n .n) .n)) (.seq .n (.seq (.seq .n (.join [(.norm, [5])] (.dup .n .n))) (.seq .n .n))))) 2 (fun args h => by kernel_rfl)
end Go.Rh.Tryz
