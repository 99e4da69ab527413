/- Printed by wip/tools/gen.py: functions of the program as plain functions over abstract values, each with its proof. -/
import Derived.Test.YtepgjdoablhgmaaGreatProg
import Derived.Test.YtepgjdoablhgmaaGreatRh3
set_option maxRecDepth 1000000
set_option linter.unusedVariables false
namespace Go.Rh.Tryz
open Go.Proofs
/-- slices.partitionEqualCmpFunc[roundhouse/audit.Owner] -/
noncomputable def F56 (S : FS) (D : FD) (args : List AV) (h : Heap) : Option (Bool × AV × Heap) :=
 kv5 args fun data_1 a_2 b_3 pivot_4 cmp_5 =>
 ob (kia 6 data_1 pivot_4) fun v6 =>
 ob (kloadN 6 h v6) fun v7 =>
 ob (kia 6 data_1 a_2) fun v8 =>
 ob (kloadN 6 h v8) fun v9 =>
 ob (kia 6 data_1 a_2) fun v10 =>
 ob (kstore 6 v10 v7 h) fun h11 =>
 ob (kia 6 data_1 pivot_4) fun v12 =>
 ob (kstore 6 v12 v9 h11) fun h13 =>
 ob (kbinI .add a_2 (.int .i64 (.ofNat 1))) fun v14 =>
 ob (kbinI .sub b_3 (.int .i64 (.ofNat 1))) fun v15 =>
 ob (iterD (fun vs16 ds17 h18 => kv5 vs16 fun data_19 a_20 cmp_21 i_22 j_23 =>
  ob (iterD (fun vs24 ds25 h26 => kv5 vs24 fun data_27 a_28 cmp_29 i_30 j_31 =>
   ob (kbinI .leq i_30 j_31) fun v32 =>
   ob (kgv true v32 (some cmp_29)) fun v33 =>
   ob (kgv true v32 (some data_27)) fun v34 =>
   ob (kgv true v32 (some a_28)) fun v35 =>
   ob (kgv true v32 (kia 6 v34 v35)) fun v36 =>
   ob (kgv true v32 (kloadN 6 h26 v36)) fun v37 =>
   ob (kgv true v32 (some data_27)) fun v38 =>
   ob (kgv true v32 (some i_30)) fun v39 =>
   ob (kgv true v32 (kia 6 v38 v39)) fun v40 =>
   ob (kgv true v32 (kloadN 6 h26 v40)) fun v41 =>
   ob (kgc true v32 h26 (D v33 [v37, v41] h26)) fun r42 => kres r42 (fun v43 h44 =>
   ob (kgv true v32 (kbinI .lss v43 (.int .i64 (.ofNat 0)))) fun v47 =>
   ob (kgv true v32 (aun .not v47)) fun v48 =>
   ob (kpick v32 v48 (.bool false)) fun v49 =>
   kif v49
    (ob (kbinI .add i_30 (.int .i64 (.ofNat 1))) fun v50 =>
    (some ⟨0, [data_27, a_28, cmp_29, v50, j_31], ds25, h44⟩))
    ((some ⟨1, [data_27, a_28, cmp_29, i_30, j_31], ds25, h44⟩))) (fun p45 h46 => (some ⟨2, [p45], ds25, h46⟩))) rounds [data_19, a_20, cmp_21, i_22, j_23] ds17 h18) fun r51 => kcase (J.i r51) [kv5 (J.vs r51) fun data_52 a_53 cmp_54 i_55 j_56 =>
   ob (iterD (fun vs57 ds58 h59 => kv5 vs57 fun data_60 a_61 cmp_62 i_63 j_64 =>
    ob (kbinI .leq i_63 j_64) fun v65 =>
    ob (kgv true v65 (some cmp_62)) fun v66 =>
    ob (kgv true v65 (some data_60)) fun v67 =>
    ob (kgv true v65 (some a_61)) fun v68 =>
    ob (kgv true v65 (kia 6 v67 v68)) fun v69 =>
    ob (kgv true v65 (kloadN 6 h59 v69)) fun v70 =>
    ob (kgv true v65 (some data_60)) fun v71 =>
    ob (kgv true v65 (some j_64)) fun v72 =>
    ob (kgv true v65 (kia 6 v71 v72)) fun v73 =>
    ob (kgv true v65 (kloadN 6 h59 v73)) fun v74 =>
    ob (kgc true v65 h59 (D v66 [v70, v74] h59)) fun r75 => kres r75 (fun v76 h77 =>
    ob (kgv true v65 (kbinI .lss v76 (.int .i64 (.ofNat 0)))) fun v80 =>
    ob (kpick v65 v80 (.bool false)) fun v81 =>
    kif v81
     (ob (kbinI .sub j_64 (.int .i64 (.ofNat 1))) fun v82 =>
     (some ⟨0, [data_60, a_61, cmp_62, i_63, v82], ds58, h77⟩))
     ((some ⟨1, [data_60, a_61, cmp_62, i_63, j_64], ds58, h77⟩))) (fun p78 h79 => (some ⟨2, [p78], ds58, h79⟩))) rounds [data_52, a_53, cmp_54, i_55, j_56] (J.ds r51) (J.h r51)) fun r83 => kcase (J.i r83) [kv5 (J.vs r83) fun data_84 a_85 cmp_86 i_87 j_88 =>
    ob (kbinI .gtr i_87 j_88) fun v89 =>
    kif v89
     ((some ⟨1, [i_87], (J.ds r83), (J.h r83)⟩))
     (ob (kia 6 data_84 j_88) fun v90 =>
     ob (kloadN 6 (J.h r83) v90) fun v91 =>
     ob (kia 6 data_84 i_87) fun v92 =>
     ob (kloadN 6 (J.h r83) v92) fun v93 =>
     ob (kia 6 data_84 i_87) fun v94 =>
     ob (kstore 6 v94 v91 (J.h r83)) fun h95 =>
     ob (kia 6 data_84 j_88) fun v96 =>
     ob (kstore 6 v96 v93 h95) fun h97 =>
     ob (kbinI .add i_87 (.int .i64 (.ofNat 1))) fun v98 =>
     ob (kbinI .sub j_88 (.int .i64 (.ofNat 1))) fun v99 =>
     (some ⟨0, [data_84, a_85, cmp_86, v98, v99], (J.ds r83), h97⟩)),
   kv1 (J.vs r83) fun p100 => (some ⟨2, [p100], (J.ds r83), (J.h r83)⟩)],
  kv1 (J.vs r51) fun p101 => (some ⟨2, [p101], (J.ds r51), (J.h r51)⟩)]) rounds [data_1, a_2, cmp_5, v14, v15] [] h13) fun r102 => kcase (J.i r102) [kv1 (J.vs r102) fun i_103 =>
  (dleave (fun h104 => (some (false, i_103, h104))) (J.ds r102) (J.h r102)),
 kv1 (J.vs r102) fun p105 => (kds (J.ds r102) (some (true, p105, (J.h r102))))]
theorem F56_ok {S : FS} {D : FD} (hS : SpecsOK Tryz.prog S) (hD : DynOK Tryz.prog D) : SpecOK Tryz.prog 56 (F56 S D) :=
  SpecOK.of (c := match Tryz.f56.body with | some c => c | none => .skip) (by kernel_rfl) hS hD ⟨Tryz.func56, rfl, by decide⟩
    (.seq .n (.seq .n (.seq .n (.seq (.one (.loop [0, 1, 4, 11, 12] [(.exit 0, [11]), (.pan, [])] (.one (.seq (.one (.loop [0, 1, 4, 11, 12] [(.exit 2, [0, 1, 4, 11, 12]), (.pan, [])] (.seq (.seq .n (.dup .n .n)) (.one .n)))) (.seq (.one (.loop [0, 1, 4, 11, 12] [(.exit 4, [0, 1, 4, 11, 12]), (.pan, [])] (.seq (.seq .n (.dup .n .n)) (.one .n)))) (.seq (.seq .n (.dup .n .n)) (.seq .n (.seq .n .n)))))))) (.seq .n .n))))) 5 (fun args h => by kernel_rfl)
/-- slices.partitionCmpFunc[roundhouse/audit.Owner] -/
noncomputable def F57 (S : FS) (D : FD) (args : List AV) (h : Heap) : Option (Bool × AV × Heap) :=
 kv5 args fun data_1 a_2 b_3 pivot_4 cmp_5 =>
 ob (kia 6 data_1 pivot_4) fun v6 =>
 ob (kloadN 6 h v6) fun v7 =>
 ob (kia 6 data_1 a_2) fun v8 =>
 ob (kloadN 6 h v8) fun v9 =>
 ob (kia 6 data_1 a_2) fun v10 =>
 ob (kstore 6 v10 v7 h) fun h11 =>
 ob (kia 6 data_1 pivot_4) fun v12 =>
 ob (kstore 6 v12 v9 h11) fun h13 =>
 ob (kbinI .add a_2 (.int .i64 (.ofNat 1))) fun v14 =>
 ob (kbinI .sub b_3 (.int .i64 (.ofNat 1))) fun v15 =>
 ob (iterD (fun vs16 ds17 h18 => kv5 vs16 fun data_19 a_20 cmp_21 i_22 j_23 =>
  ob (kbinI .leq i_22 j_23) fun v24 =>
  ob (kgv true v24 (some cmp_21)) fun v25 =>
  ob (kgv true v24 (some data_19)) fun v26 =>
  ob (kgv true v24 (some i_22)) fun v27 =>
  ob (kgv true v24 (kia 6 v26 v27)) fun v28 =>
  ob (kgv true v24 (kloadN 6 h18 v28)) fun v29 =>
  ob (kgv true v24 (some data_19)) fun v30 =>
  ob (kgv true v24 (some a_20)) fun v31 =>
  ob (kgv true v24 (kia 6 v30 v31)) fun v32 =>
  ob (kgv true v24 (kloadN 6 h18 v32)) fun v33 =>
  ob (kgc true v24 h18 (D v25 [v29, v33] h18)) fun r34 => kres r34 (fun v35 h36 =>
  ob (kgv true v24 (kbinI .lss v35 (.int .i64 (.ofNat 0)))) fun v39 =>
  ob (kpick v24 v39 (.bool false)) fun v40 =>
  kif v40
   (ob (kbinI .add i_22 (.int .i64 (.ofNat 1))) fun v41 =>
   (some ⟨0, [data_19, a_20, cmp_21, v41, j_23], ds17, h36⟩))
   ((some ⟨1, [data_19, a_20, cmp_21, i_22, j_23], ds17, h36⟩))) (fun p37 h38 => (some ⟨2, [p37], ds17, h38⟩))) rounds [data_1, a_2, cmp_5, v14, v15] [] h13) fun r42 => kcase (J.i r42) [kv5 (J.vs r42) fun data_43 a_44 cmp_45 i_46 j_47 =>
  ob (iterD (fun vs48 ds49 h50 => kv5 vs48 fun data_51 a_52 cmp_53 i_54 j_55 =>
   ob (kbinI .leq i_54 j_55) fun v56 =>
   ob (kgv true v56 (some cmp_53)) fun v57 =>
   ob (kgv true v56 (some data_51)) fun v58 =>
   ob (kgv true v56 (some j_55)) fun v59 =>
   ob (kgv true v56 (kia 6 v58 v59)) fun v60 =>
   ob (kgv true v56 (kloadN 6 h50 v60)) fun v61 =>
   ob (kgv true v56 (some data_51)) fun v62 =>
   ob (kgv true v56 (some a_52)) fun v63 =>
   ob (kgv true v56 (kia 6 v62 v63)) fun v64 =>
   ob (kgv true v56 (kloadN 6 h50 v64)) fun v65 =>
   ob (kgc true v56 h50 (D v57 [v61, v65] h50)) fun r66 => kres r66 (fun v67 h68 =>
   ob (kgv true v56 (kbinI .lss v67 (.int .i64 (.ofNat 0)))) fun v71 =>
   ob (kgv true v56 (aun .not v71)) fun v72 =>
   ob (kpick v56 v72 (.bool false)) fun v73 =>
   kif v73
    (ob (kbinI .sub j_55 (.int .i64 (.ofNat 1))) fun v74 =>
    (some ⟨0, [data_51, a_52, cmp_53, i_54, v74], ds49, h68⟩))
    ((some ⟨1, [data_51, a_52, cmp_53, i_54, j_55], ds49, h68⟩))) (fun p69 h70 => (some ⟨2, [p69], ds49, h70⟩))) rounds [data_43, a_44, cmp_45, i_46, j_47] (J.ds r42) (J.h r42)) fun r75 => kcase (J.i r75) [kv5 (J.vs r75) fun data_76 a_77 cmp_78 i_79 j_80 =>
   ob (kbinI .gtr i_79 j_80) fun v81 =>
   kif v81
    (ob (kia 6 data_76 a_77) fun v82 =>
    ob (kloadN 6 (J.h r75) v82) fun v83 =>
    ob (kia 6 data_76 j_80) fun v84 =>
    ob (kloadN 6 (J.h r75) v84) fun v85 =>
    ob (kia 6 data_76 j_80) fun v86 =>
    ob (kstore 6 v86 v83 (J.h r75)) fun h87 =>
    ob (kia 6 data_76 a_77) fun v88 =>
    ob (kstore 6 v88 v85 h87) fun h89 =>
    (dleave (fun h90 => (some (false, (.tuple [j_80, (.bool true)]), h90))) (J.ds r75) h89))
    (ob (kia 6 data_76 j_80) fun v91 =>
    ob (kloadN 6 (J.h r75) v91) fun v92 =>
    ob (kia 6 data_76 i_79) fun v93 =>
    ob (kloadN 6 (J.h r75) v93) fun v94 =>
    ob (kia 6 data_76 i_79) fun v95 =>
    ob (kstore 6 v95 v92 (J.h r75)) fun h96 =>
    ob (kia 6 data_76 j_80) fun v97 =>
    ob (kstore 6 v97 v94 h96) fun h98 =>
    ob (kbinI .add i_79 (.int .i64 (.ofNat 1))) fun v99 =>
    ob (kbinI .sub j_80 (.int .i64 (.ofNat 1))) fun v100 =>
    ob (iterD (fun vs101 ds102 h103 => kv5 vs101 fun data_104 a_105 cmp_106 i_107 j_108 =>
     ob (iterD (fun vs109 ds110 h111 => kv5 vs109 fun data_112 a_113 cmp_114 i_115 j_116 =>
      ob (kbinI .leq i_115 j_116) fun v117 =>
      ob (kgv true v117 (some cmp_114)) fun v118 =>
      ob (kgv true v117 (some data_112)) fun v119 =>
      ob (kgv true v117 (some i_115)) fun v120 =>
      ob (kgv true v117 (kia 6 v119 v120)) fun v121 =>
      ob (kgv true v117 (kloadN 6 h111 v121)) fun v122 =>
      ob (kgv true v117 (some data_112)) fun v123 =>
      ob (kgv true v117 (some a_113)) fun v124 =>
      ob (kgv true v117 (kia 6 v123 v124)) fun v125 =>
      ob (kgv true v117 (kloadN 6 h111 v125)) fun v126 =>
      ob (kgc true v117 h111 (D v118 [v122, v126] h111)) fun r127 => kres r127 (fun v128 h129 =>
      ob (kgv true v117 (kbinI .lss v128 (.int .i64 (.ofNat 0)))) fun v132 =>
      ob (kpick v117 v132 (.bool false)) fun v133 =>
      kif v133
       (ob (kbinI .add i_115 (.int .i64 (.ofNat 1))) fun v134 =>
       (some ⟨0, [data_112, a_113, cmp_114, v134, j_116], ds110, h129⟩))
       ((some ⟨1, [data_112, a_113, cmp_114, i_115, j_116], ds110, h129⟩))) (fun p130 h131 => (some ⟨2, [p130], ds110, h131⟩))) rounds [data_104, a_105, cmp_106, i_107, j_108] ds102 h103) fun r135 => kcase (J.i r135) [kv5 (J.vs r135) fun data_136 a_137 cmp_138 i_139 j_140 =>
      ob (iterD (fun vs141 ds142 h143 => kv5 vs141 fun data_144 a_145 cmp_146 i_147 j_148 =>
       ob (kbinI .leq i_147 j_148) fun v149 =>
       ob (kgv true v149 (some cmp_146)) fun v150 =>
       ob (kgv true v149 (some data_144)) fun v151 =>
       ob (kgv true v149 (some j_148)) fun v152 =>
       ob (kgv true v149 (kia 6 v151 v152)) fun v153 =>
       ob (kgv true v149 (kloadN 6 h143 v153)) fun v154 =>
       ob (kgv true v149 (some data_144)) fun v155 =>
       ob (kgv true v149 (some a_145)) fun v156 =>
       ob (kgv true v149 (kia 6 v155 v156)) fun v157 =>
       ob (kgv true v149 (kloadN 6 h143 v157)) fun v158 =>
       ob (kgc true v149 h143 (D v150 [v154, v158] h143)) fun r159 => kres r159 (fun v160 h161 =>
       ob (kgv true v149 (kbinI .lss v160 (.int .i64 (.ofNat 0)))) fun v164 =>
       ob (kgv true v149 (aun .not v164)) fun v165 =>
       ob (kpick v149 v165 (.bool false)) fun v166 =>
       kif v166
        (ob (kbinI .sub j_148 (.int .i64 (.ofNat 1))) fun v167 =>
        (some ⟨0, [data_144, a_145, cmp_146, i_147, v167], ds142, h161⟩))
        ((some ⟨1, [data_144, a_145, cmp_146, i_147, j_148], ds142, h161⟩))) (fun p162 h163 => (some ⟨2, [p162], ds142, h163⟩))) rounds [data_136, a_137, cmp_138, i_139, j_140] (J.ds r135) (J.h r135)) fun r168 => kcase (J.i r168) [kv5 (J.vs r168) fun data_169 a_170 cmp_171 i_172 j_173 =>
       ob (kbinI .gtr i_172 j_173) fun v174 =>
       kif v174
        ((some ⟨1, [data_169, a_170, j_173], (J.ds r168), (J.h r168)⟩))
        (ob (kia 6 data_169 j_173) fun v175 =>
        ob (kloadN 6 (J.h r168) v175) fun v176 =>
        ob (kia 6 data_169 i_172) fun v177 =>
        ob (kloadN 6 (J.h r168) v177) fun v178 =>
        ob (kia 6 data_169 i_172) fun v179 =>
        ob (kstore 6 v179 v176 (J.h r168)) fun h180 =>
        ob (kia 6 data_169 j_173) fun v181 =>
        ob (kstore 6 v181 v178 h180) fun h182 =>
        ob (kbinI .add i_172 (.int .i64 (.ofNat 1))) fun v183 =>
        ob (kbinI .sub j_173 (.int .i64 (.ofNat 1))) fun v184 =>
        (some ⟨0, [data_169, a_170, cmp_171, v183, v184], (J.ds r168), h182⟩)),
      kv1 (J.vs r168) fun p185 => (some ⟨2, [p185], (J.ds r168), (J.h r168)⟩)],
     kv1 (J.vs r135) fun p186 => (some ⟨2, [p186], (J.ds r135), (J.h r135)⟩)]) rounds [data_76, a_77, cmp_78, v99, v100] (J.ds r75) h98) fun r187 => kcase (J.i r187) [kv3 (J.vs r187) fun data_188 a_189 j_190 =>
     ob (kia 6 data_188 a_189) fun v191 =>
     ob (kloadN 6 (J.h r187) v191) fun v192 =>
     ob (kia 6 data_188 j_190) fun v193 =>
     ob (kloadN 6 (J.h r187) v193) fun v194 =>
     ob (kia 6 data_188 j_190) fun v195 =>
     ob (kstore 6 v195 v192 (J.h r187)) fun h196 =>
     ob (kia 6 data_188 a_189) fun v197 =>
     ob (kstore 6 v197 v194 h196) fun h198 =>
     (dleave (fun h199 => (some (false, (.tuple [j_190, (.bool false)]), h199))) (J.ds r187) h198),
    kv1 (J.vs r187) fun p200 => (kds (J.ds r187) (some (true, p200, (J.h r187))))]),
  kv1 (J.vs r75) fun p201 => (kds (J.ds r75) (some (true, p201, (J.h r75))))],
 kv1 (J.vs r42) fun p202 => (kds (J.ds r42) (some (true, p202, (J.h r42))))]
theorem F57_ok {S : FS} {D : FD} (hS : SpecsOK Tryz.prog S) (hD : DynOK Tryz.prog D) : SpecOK Tryz.prog 57 (F57 S D) :=
  SpecOK.of (c := match Tryz.f57.body with | some c => c | none => .skip) (by kernel_rfl) hS hD ⟨Tryz.func57, rfl, by decide⟩
    (.seq .n (.seq .n (.seq .n (.seq (.one (.loop [0, 1, 4, 12, 13] [(.exit 0, [0, 1, 4, 12, 13]), (.pan, [])] (.seq (.seq .n (.dup .n .n)) (.one .n)))) (.seq (.one (.loop [0, 1, 4, 12, 13] [(.exit 2, [0, 1, 4, 12, 13]), (.pan, [])] (.seq (.seq .n (.dup .n .n)) (.one .n)))) (.seq (.seq .n (.dup (.seq .n (.seq .n .n)) .n)) (.seq .n (.seq .n (.seq .n (.seq (.one (.loop [0, 1, 4, 12, 13] [(.exit 4, [0, 1, 13]), (.pan, [])] (.one (.seq (.one (.loop [0, 1, 4, 12, 13] [(.exit 6, [0, 1, 4, 12, 13]), (.pan, [])] (.seq (.seq .n (.dup .n .n)) (.one .n)))) (.seq (.one (.loop [0, 1, 4, 12, 13] [(.exit 8, [0, 1, 4, 12, 13]), (.pan, [])] (.seq (.seq .n (.dup .n .n)) (.one .n)))) (.seq (.seq .n (.dup .n .n)) (.seq .n (.seq .n .n)))))))) (.seq .n (.seq .n .n)))))))))))) 5 (fun args h => by kernel_rfl)
/-- math/bits.Len32 -/
noncomputable def F58 (S : FS) (D : FD) (args : List AV) (h : Heap) : Option (Bool × AV × Heap) :=
 kv1 args fun x_1 =>
 ob (kbinI .geq x_1 (.int .u32 (.ofNat 65536))) fun v2 =>
 ob (kif v2
  (ob (kbinI .shr x_1 (.int .u64 (.ofNat 16))) fun v4 =>
  (some ⟨0, [v4, (.int .i64 (.ofNat 16))], [], h⟩))
  ((some ⟨0, [x_1, (.int .i64 (.ofNat 0))], [], h⟩))) fun r3 => kcase (J.i r3) [kv2 (J.vs r3) fun x_5 n_6 =>
  ob (kbinI .geq x_5 (.int .u32 (.ofNat 256))) fun v7 =>
  ob (kif v7
   (ob (kbinI .shr x_5 (.int .u64 (.ofNat 8))) fun v9 =>
   ob (kbinI .add n_6 (.int .i64 (.ofNat 8))) fun v10 =>
   (some ⟨0, [v9, v10], (J.ds r3), (J.h r3)⟩))
   ((some ⟨0, [x_5, n_6], (J.ds r3), (J.h r3)⟩))) fun r8 => kcase (J.i r8) [kv2 (J.vs r8) fun x_11 n_12 =>
   ob (kconvI .u8 x_11) fun v13 =>
   ob (kixS (.str 256 1013866857139168856493015739252390649739422828853819106890363778118420553376247557433637691341895324351018602695588957474325319502760499485336098898398377509666851054660423406800006203933793007272033180812049178612605246075062580585469430410618860250057463399279570354286669047577758927328864388992123306212451509403152394148136105363817402562688186708175358218852349079190158732807302672745370040257219644697201681238697346923541678507645485296520536209706771857694240900605172937619415410180424934769249448772944216470541052485265558808433676546390051204254346932932316488017972311616136051587427851453983453479168) v13) fun v14 =>
   ob (kconvI .i64 v14) fun v15 =>
   ob (kbinI .add n_12 v15) fun v16 =>
   (dleave (fun h17 => (some (false, v16, h17))) (J.ds r8) (J.h r8))]]
theorem F58_ok {S : FS} {D : FD} (hS : SpecsOK Tryz.prog S) (hD : DynOK Tryz.prog D) : SpecOK Tryz.prog 58 (F58 S D) :=
  SpecOK.of (c := match Tryz.f58.body with | some c => c | none => .skip) (by kernel_rfl) hS hD ⟨Tryz.func58, rfl, by decide⟩
    (.seq .n (.seq (.seq .n (.join [(.norm, [0, 2])] (.dup (.seq .n .n) .n))) (.seq (.seq .n (.join [(.norm, [0, 2])] (.dup (.seq .n .n) .n))) (.seq .n .n)))) 1 (fun args h => by kernel_rfl)
/-- math/bits.Len64 -/
noncomputable def F59 (S : FS) (D : FD) (args : List AV) (h : Heap) : Option (Bool × AV × Heap) :=
 kv1 args fun x_1 =>
 ob (kbinI .geq x_1 (.int .u64 (.ofNat 4294967296))) fun v2 =>
 ob (kif v2
  (ob (kbinI .shr x_1 (.int .u64 (.ofNat 32))) fun v4 =>
  (some ⟨0, [v4, (.int .i64 (.ofNat 32))], [], h⟩))
  ((some ⟨0, [x_1, (.int .i64 (.ofNat 0))], [], h⟩))) fun r3 => kcase (J.i r3) [kv2 (J.vs r3) fun x_5 n_6 =>
  ob (kbinI .geq x_5 (.int .u64 (.ofNat 65536))) fun v7 =>
  ob (kif v7
   (ob (kbinI .shr x_5 (.int .u64 (.ofNat 16))) fun v9 =>
   ob (kbinI .add n_6 (.int .i64 (.ofNat 16))) fun v10 =>
   (some ⟨0, [v9, v10], (J.ds r3), (J.h r3)⟩))
   ((some ⟨0, [x_5, n_6], (J.ds r3), (J.h r3)⟩))) fun r8 => kcase (J.i r8) [kv2 (J.vs r8) fun x_11 n_12 =>
   ob (kbinI .geq x_11 (.int .u64 (.ofNat 256))) fun v13 =>
   ob (kif v13
    (ob (kbinI .shr x_11 (.int .u64 (.ofNat 8))) fun v15 =>
    ob (kbinI .add n_12 (.int .i64 (.ofNat 8))) fun v16 =>
    (some ⟨0, [v15, v16], (J.ds r8), (J.h r8)⟩))
    ((some ⟨0, [x_11, n_12], (J.ds r8), (J.h r8)⟩))) fun r14 => kcase (J.i r14) [kv2 (J.vs r14) fun x_17 n_18 =>
    ob (kconvI .u8 x_17) fun v19 =>
    ob (kixS (.str 256 1013866857139168856493015739252390649739422828853819106890363778118420553376247557433637691341895324351018602695588957474325319502760499485336098898398377509666851054660423406800006203933793007272033180812049178612605246075062580585469430410618860250057463399279570354286669047577758927328864388992123306212451509403152394148136105363817402562688186708175358218852349079190158732807302672745370040257219644697201681238697346923541678507645485296520536209706771857694240900605172937619415410180424934769249448772944216470541052485265558808433676546390051204254346932932316488017972311616136051587427851453983453479168) v19) fun v20 =>
    ob (kconvI .i64 v20) fun v21 =>
    ob (kbinI .add n_18 v21) fun v22 =>
    (dleave (fun h23 => (some (false, v22, h23))) (J.ds r14) (J.h r14))]]]
theorem F59_ok {S : FS} {D : FD} (hS : SpecsOK Tryz.prog S) (hD : DynOK Tryz.prog D) : SpecOK Tryz.prog 59 (F59 S D) :=
  SpecOK.of (c := match Tryz.f59.body with | some c => c | none => .skip) (by kernel_rfl) hS hD ⟨Tryz.func59, rfl, by decide⟩
    (.seq .n (.seq (.seq .n (.join [(.norm, [0, 2])] (.dup (.seq .n .n) .n))) (.seq (.seq .n (.join [(.norm, [0, 2])] (.dup (.seq .n .n) .n))) (.seq (.seq .n (.join [(.norm, [0, 2])] (.dup (.seq .n .n) .n))) (.seq .n .n))))) 1 (fun args h => by kernel_rfl)
/-- cmp.isNaN[int] -/
noncomputable def F60 (S : FS) (D : FD) (args : List AV) (h : Heap) : Option (Bool × AV × Heap) :=
 kv1 args fun x_1 =>
 ob (kbinI .neq x_1 x_1) fun v2 =>
 (some (false, v2, h))
theorem F60_ok {S : FS} {D : FD} (hS : SpecsOK Tryz.prog S) (hD : DynOK Tryz.prog D) : SpecOK Tryz.prog 60 (F60 S D) :=
  SpecOK.of (c := match Tryz.f60.body with | some c => c | none => .skip) (by kernel_rfl) hS hD ⟨Tryz.func60, rfl, by decide⟩
    (.seq .n (.seq .n .n)) 1 (fun args h => by kernel_rfl)
/-- (*roundhouse/pool.Pool).Free -/
noncomputable def F61 (S : FS) (D : FD) (args : List AV) (h : Heap) : Option (Bool × AV × Heap) :=
 kv1 args fun p_1 =>
 Heap.pushK h (.cells [(.int .u64 (.ofNat 0)), (.int .u64 (.ofNat 0)), (.int .u64 (.ofNat 0)), (.int .u64 (.ofNat 0))] true 98) fun h2 =>
 ob (kbinO Tryz.prog .eql 86 true p_1 AV.nilptr) fun v3 =>
 kif v3
  (ob (abuild Tryz.prog 98 []) fun v4 =>
  ob (kstore 4 (.ptr (Heap.next h) 0) v4 h2) fun h5 =>
  ob (kloadN 4 h5 (.ptr (Heap.next h) 0)) fun v6 => (some (false, v6, h5)))
  (ob (knil p_1) fun v7 =>
  ob (kfa 0 v7) fun v8 =>
  ob (kloadN 2 h2 v8) fun v9 =>
  ob (S 103 [v9] h2) fun r10 => kres r10 (fun v11 h12 =>
  Heap.pushK h12 (.cells [(.int .u64 (.ofNat 0)), (.int .u64 (.ofNat 0)), (.int .u64 (.ofNat 0)), (.int .u64 (.ofNat 0))] true 98) fun h15 =>
  ob (kstore 4 (.ptr (Heap.next h12) 0) v11 h15) fun h16 =>
  ob (knil p_1) fun v17 =>
  ob (kfa 2 v17) fun v18 =>
  ob (kload h16 v18) fun v19 =>
  ob (arangeM Tryz.prog h16 201 v19) fun r20 =>
  ob (iterD (fun vs21 ds22 h23 => kv3 vs21 fun v24 free_25 v26 =>
   ob (anext h23 v26 false) fun r27 =>
   ob (aextract r27.1 0) fun v28 =>
   kif v28
    (ob (aentry r27.2 v26) fun v29 =>
    ob (aextract v29 1) fun v30 =>
    Heap.pushK r27.2 (.cells [(.int .u64 (.ofNat 0)), (.int .u64 (.ofNat 0)), (.int .u64 (.ofNat 0)), (.int .u64 (.ofNat 0)), (.bool false)] true 205) fun h31 =>
    ob (kstore 5 (.ptr (Heap.next r27.2) 0) v30 h31) fun h32 =>
    ob (kloadN 4 h32 free_25) fun v33 =>
    ob (kfa 0 (.ptr (Heap.next r27.2) 0)) fun v34 =>
    ob (kloadN 4 h32 v34) fun v35 =>
    ob (S 104 [v33, v35] h32) fun r36 => kres r36 (fun v37 h38 =>
    ob (kstore 4 free_25 v37 h38) fun h41 =>
    (some ⟨0, [v24, free_25, v26], ds22, h41⟩)) (fun p39 h40 => (some ⟨2, [p39], ds22, h40⟩)))
    ((some ⟨1, [v24, free_25], ds22, r27.2⟩))) rounds [(.ptr (Heap.next h) 0), (.ptr (Heap.next h12) 0), r20.1] [] r20.2) fun r42 => kcase (J.i r42) [kv2 (J.vs r42) fun v43 free_44 =>
   ob (kloadN 4 (J.h r42) free_44) fun v45 =>
   ob (kstore 4 v43 v45 (J.h r42)) fun h46 =>
   (dleave (fun h47 => ob (kloadN 4 h47 v43) fun v48 => (some (false, v48, h47))) (J.ds r42) h46),
  kv1 (J.vs r42) fun p49 => (kds (J.ds r42) (some (true, p49, (J.h r42))))]) (fun p13 h14 => (some (true, p13, h14))))
theorem F61_ok {S : FS} {D : FD} (hS : SpecsOK Tryz.prog S) (hD : DynOK Tryz.prog D) : SpecOK Tryz.prog 61 (F61 S D) :=
  SpecOK.of (c := match Tryz.f61.body with | some c => c | none => .skip) (by kernel_rfl) hS hD ⟨Tryz.func61, rfl, by decide⟩
    (.seq .n (.seq (.seq .n (.dup (.seq .n .n) .n)) (.seq .n (.seq (.seq .n (.one (.loop [2, 3, 18] [(.exit 0, [2, 3]), (.pan, [])] (.seq .n (.seq (.dup .n .n) (.one (.seq .n .n))))))) (.seq .n .n))))) 1 (fun args h => by kernel_rfl)
/-- roundhouse/mask.core -/
noncomputable def F62 (S : FS) (D : FD) (args : List AV) (h : Heap) : Option (Bool × AV × Heap) :=
 kv1 args fun c_1 =>
 ob (kbinI .geq c_1 (.int .i64 (.ofNat 0))) fun v2 =>
 ob (kgv true v2 (some c_1)) fun v3 =>
 ob (kgv true v2 (kbinI .lss v3 (.int .i64 (.ofNat 256)))) fun v4 =>
 ob (kpick v2 v4 (.bool false)) fun v5 =>
 (some (false, v5, h))
theorem F62_ok {S : FS} {D : FD} (hS : SpecsOK Tryz.prog S) (hD : DynOK Tryz.prog D) : SpecOK Tryz.prog 62 (F62 S D) :=
  SpecOK.of (c := match Tryz.f62.body with | some c => c | none => .skip) (by kernel_rfl) hS hD ⟨Tryz.func62, rfl, by decide⟩
    (.seq .n (.seq .n .n)) 1 (fun args h => by kernel_rfl)
/-- slices.Equal[[]roundhouse/rec.Job,roundhouse/rec.Job] -/
noncomputable def F63 (S : FS) (D : FD) (args : List AV) (h : Heap) : Option (Bool × AV × Heap) :=
 kv2 args fun s1_1 s2_2 =>
 ob (klenL s1_1) fun v3 =>
 ob (klenL s2_2) fun v4 =>
 ob (kbinI .neq v3 v4) fun v5 =>
 kif v5
  ((some (false, (.bool false), h)))
  (ob (klenL s1_1) fun v6 =>
  ob (iterD (fun vs7 ds8 h9 => kv4 vs7 fun s1_10 s2_11 v12 v13 =>
   ob (kbinI .lss v13 v12) fun v14 =>
   kif v14
    (ob (kia 3 s1_10 v13) fun v15 =>
    ob (kloadN 3 h9 v15) fun v16 =>
    ob (kia 3 s2_11 v13) fun v17 =>
    ob (kloadN 3 h9 v17) fun v18 =>
    ob (kbinO Tryz.prog .neq 153 false v16 v18) fun v19 =>
    kif v19
     ((some ⟨2, [(.bool false)], ds8, h9⟩))
     (ob (kbinI .add v13 (.int .i64 (.ofNat 1))) fun v20 =>
     (some ⟨0, [s1_10, s2_11, v12, v20], ds8, h9⟩)))
    ((some ⟨1, [], ds8, h9⟩))) rounds [s1_1, s2_2, v6, (.int .i64 (.ofNat 0))] [] h) fun r21 => kcase (J.i r21) [kv0 (J.vs r21) ((dleave (fun h22 => (some (false, (.bool true), h22))) (J.ds r21) (J.h r21))),
  kv1 (J.vs r21) fun v23 =>
   (dleave (fun h24 => (some (false, v23, h24))) (J.ds r21) (J.h r21))])
theorem F63_ok {S : FS} {D : FD} (hS : SpecsOK Tryz.prog S) (hD : DynOK Tryz.prog D) : SpecOK Tryz.prog 63 (F63 S D) :=
  SpecOK.of (c := match Tryz.f63.body with | some c => c | none => .skip) (by kernel_rfl) hS hD ⟨Tryz.func63, rfl, by decide⟩
    (.seq .n (.seq (.seq .n (.dup (.seq .n .n) .n)) (.seq (.seq .n (.one (.loop [0, 1, 12, 13] [(.exit 0, []), (.ret, [4])] (.seq .n (.seq (.dup .n .n) (.seq (.one (.seq .n (.seq .n (.dup (.seq .n .n) .n)))) .n)))))) (.seq .n .n)))) 2 (fun args h => by kernel_rfl)
/-- slices.EqualFunc[[]roundhouse/rec.Step,[]roundhouse/rec.Step,roundhouse/rec.Step,roundhouse/rec.Step] -/
noncomputable def F64 (S : FS) (D : FD) (args : List AV) (h : Heap) : Option (Bool × AV × Heap) :=
 kv3 args fun s1_1 s2_2 eq_3 =>
 ob (klenL s1_1) fun v4 =>
 ob (klenL s2_2) fun v5 =>
 ob (kbinI .neq v4 v5) fun v6 =>
 kif v6
  ((some (false, (.bool false), h)))
  (ob (klenL s1_1) fun v7 =>
  ob (iterD (fun vs8 ds9 h10 => kv5 vs8 fun s2_11 eq_12 v13 v14 v15 =>
   ob (kbinI .lss v15 v14) fun v16 =>
   kif v16
    (ob (kia 6 v13 v15) fun v17 =>
    ob (kloadN 6 h10 v17) fun v18 =>
    Heap.pushK h10 (.cells [(.int .i64 (.ofNat 0)), (.int .i64 (.ofNat 0)), (.int .i64 (.ofNat 0)), (.int .i64 (.ofNat 0)), (.int .i64 (.ofNat 0)), AV.nilslice] true 156) fun h19 =>
    ob (kstore 6 (.ptr (Heap.next h10) 0) v18 h19) fun h20 =>
    ob (kia 6 s2_11 v15) fun v21 =>
    ob (kloadN 6 h20 v21) fun v22 =>
    Heap.pushK h20 (.cells [(.int .i64 (.ofNat 0)), (.int .i64 (.ofNat 0)), (.int .i64 (.ofNat 0)), (.int .i64 (.ofNat 0)), (.int .i64 (.ofNat 0)), AV.nilslice] true 156) fun h23 =>
    ob (kstore 6 (.ptr (Heap.next h20) 0) v22 h23) fun h24 =>
    ob (kloadN 6 h24 (.ptr (Heap.next h10) 0)) fun v25 =>
    ob (kloadN 6 h24 (.ptr (Heap.next h20) 0)) fun v26 =>
    ob (D eq_12 [v25, v26] h24) fun r27 => kres r27 (fun v28 h29 =>
    ob (aun .not v28) fun v32 =>
    kif v32
     ((some ⟨2, [(.bool false)], ds9, h29⟩))
     (ob (kbinI .add v15 (.int .i64 (.ofNat 1))) fun v33 =>
     (some ⟨0, [s2_11, eq_12, v13, v14, v33], ds9, h29⟩))) (fun p30 h31 => (some ⟨3, [p30], ds9, h31⟩)))
    ((some ⟨1, [], ds9, h10⟩))) rounds [s2_2, eq_3, s1_1, v7, (.int .i64 (.ofNat 0))] [] h) fun r34 => kcase (J.i r34) [kv0 (J.vs r34) ((dleave (fun h35 => (some (false, (.bool true), h35))) (J.ds r34) (J.h r34))),
  kv1 (J.vs r34) fun v36 =>
   (dleave (fun h37 => (some (false, v36, h37))) (J.ds r34) (J.h r34)),
  kv1 (J.vs r34) fun p38 => (kds (J.ds r34) (some (true, p38, (J.h r34))))])
theorem F64_ok {S : FS} {D : FD} (hS : SpecsOK Tryz.prog S) (hD : DynOK Tryz.prog D) : SpecOK Tryz.prog 64 (F64 S D) :=
  SpecOK.of (c := match Tryz.f64.body with | some c => c | none => .skip) (by kernel_rfl) hS hD ⟨Tryz.func64, rfl, by decide⟩
    (.seq .n (.seq (.seq .n (.dup (.seq .n .n) .n)) (.seq (.seq .n (.one (.loop [1, 2, 15, 16, 17] [(.exit 0, []), (.ret, [6]), (.pan, [])] (.seq .n (.seq (.dup .n .n) (.seq (.one (.seq .n (.seq .n (.seq .n (.dup (.seq .n .n) .n))))) .n)))))) (.seq .n .n)))) 3 (fun args h => by kernel_rfl)
/-- roundhouse/audit.same$1 -/
noncomputable def F65 (S : FS) (D : FD) (args : List AV) (h : Heap) : Option (Bool × AV × Heap) :=
 kv2 args fun x_1 y_2 =>
 knt x_1 (Heap.pushK h (.cells (AV.cells x_1) true 156) fun h3 =>
 knt y_2 (Heap.pushK h3 (.cells (AV.cells y_2) true 156) fun h4 =>
 ob (kfa 0 (.ptr (Heap.next h) 0)) fun v5 =>
 ob (kload h4 v5) fun v6 =>
 ob (kfa 0 (.ptr (Heap.next h3) 0)) fun v7 =>
 ob (kload h4 v7) fun v8 =>
 ob (kbinI .eql v6 v8) fun v9 =>
 ob (kgv true v9 (kfa 1 (.ptr (Heap.next h) 0))) fun v10 =>
 ob (kgv true v9 (kload h4 v10)) fun v11 =>
 ob (kgv true v9 (kfa 1 (.ptr (Heap.next h3) 0))) fun v12 =>
 ob (kgv true v9 (kload h4 v12)) fun v13 =>
 ob (kgv true v9 (kbinI .eql v11 v13)) fun v14 =>
 ob (kpick v9 v14 (.bool false)) fun v15 =>
 ob (kgv true v15 (kfa 2 (.ptr (Heap.next h) 0))) fun v16 =>
 ob (kgv true v15 (kload h4 v16)) fun v17 =>
 ob (kgv true v15 (kfa 2 (.ptr (Heap.next h3) 0))) fun v18 =>
 ob (kgv true v15 (kload h4 v18)) fun v19 =>
 ob (kgv true v15 (kbinI .eql v17 v19)) fun v20 =>
 ob (kpick v15 v20 (.bool false)) fun v21 =>
 ob (kgv true v21 (kfa 3 (.ptr (Heap.next h) 0))) fun v22 =>
 ob (kgv true v21 (kload h4 v22)) fun v23 =>
 ob (kgv true v21 (kfa 3 (.ptr (Heap.next h3) 0))) fun v24 =>
 ob (kgv true v21 (kload h4 v24)) fun v25 =>
 ob (kgv true v21 (kbinI .eql v23 v25)) fun v26 =>
 ob (kpick v21 v26 (.bool false)) fun v27 =>
 ob (kgv true v27 (kfa 4 (.ptr (Heap.next h) 0))) fun v28 =>
 ob (kgv true v27 (kload h4 v28)) fun v29 =>
 ob (kgv true v27 (kfa 4 (.ptr (Heap.next h3) 0))) fun v30 =>
 ob (kgv true v27 (kload h4 v30)) fun v31 =>
 ob (kgv true v27 (kbinI .eql v29 v31)) fun v32 =>
 ob (kpick v27 v32 (.bool false)) fun v33 =>
 ob (kgv true v33 (kfa 5 (.ptr (Heap.next h) 0))) fun v34 =>
 ob (kgv true v33 (kload h4 v34)) fun v35 =>
 ob (kgv true v33 (kfa 5 (.ptr (Heap.next h3) 0))) fun v36 =>
 ob (kgv true v33 (kload h4 v36)) fun v37 =>
 ob (kgc true v33 h4 (S 34 [v35, v37] h4)) fun r38 => kres r38 (fun v39 h40 =>
 ob (kpick v33 v39 (.bool false)) fun v43 =>
 (some (false, v43, h40))) (fun p41 h42 => (some (true, p41, h42)))))
theorem F65_ok {S : FS} {D : FD} (hS : SpecsOK Tryz.prog S) (hD : DynOK Tryz.prog D) : SpecOK Tryz.prog 65 (F65 S D) :=
  SpecOK.of (c := match Tryz.f65.body with | some c => c | none => .skip) (by kernel_rfl) hS hD ⟨Tryz.func65, rfl, by decide⟩
    (.seq .n (.seq .n .n)) 2 (fun args h => by kernel_rfl)
/-- slices.Clone[[]roundhouse/rec.Job,roundhouse/rec.Job] -/
noncomputable def F66 (S : FS) (D : FD) (args : List AV) (h : Heap) : Option (Bool × AV × Heap) :=
 kv1 args fun s_1 =>
 ob (kbinO Tryz.prog .eql 82 true s_1 AV.nilslice) fun v2 =>
 kif v2
  ((some (false, AV.nilslice, h)))
  (ob (abuildSlice Tryz.prog 82 0 []) fun r3 => Heap.pushK h (.cells r3.1 true r3.2.2) fun h4 =>
  ob (aappend Tryz.prog h4 82 82 (.slice (Heap.next h) 0 0 0 r3.2.1) s_1) fun r5 =>
  (some (false, r5.1, r5.2)))
theorem F66_ok {S : FS} {D : FD} (hS : SpecsOK Tryz.prog S) (hD : DynOK Tryz.prog D) : SpecOK Tryz.prog 66 (F66 S D) :=
  SpecOK.of (c := match Tryz.f66.body with | some c => c | none => .skip) (by kernel_rfl) hS hD ⟨Tryz.func66, rfl, by decide⟩
    (.seq .n (.seq (.seq .n (.dup (.seq .n .n) .n)) (.seq .n .n))) 1 (fun args h => by kernel_rfl)
/-- slices.Clone[[]roundhouse/rec.Step,roundhouse/rec.Step] -/
noncomputable def F67 (S : FS) (D : FD) (args : List AV) (h : Heap) : Option (Bool × AV × Heap) :=
 kv1 args fun s_1 =>
 ob (kbinO Tryz.prog .eql 83 true s_1 AV.nilslice) fun v2 =>
 kif v2
  ((some (false, AV.nilslice, h)))
  (ob (abuildSlice Tryz.prog 83 0 []) fun r3 => Heap.pushK h (.cells r3.1 true r3.2.2) fun h4 =>
  ob (aappend Tryz.prog h4 83 83 (.slice (Heap.next h) 0 0 0 r3.2.1) s_1) fun r5 =>
  (some (false, r5.1, r5.2)))
theorem F67_ok {S : FS} {D : FD} (hS : SpecsOK Tryz.prog S) (hD : DynOK Tryz.prog D) : SpecOK Tryz.prog 67 (F67 S D) :=
  SpecOK.of (c := match Tryz.f67.body with | some c => c | none => .skip) (by kernel_rfl) hS hD ⟨Tryz.func67, rfl, by decide⟩
    (.seq .n (.seq (.seq .n (.dup (.seq .n .n) .n)) (.seq .n .n))) 1 (fun args h => by kernel_rfl)
/-- roundhouse/rec.Decode -/
noncomputable def F69 (S : FS) (D : FD) (args : List AV) (h : Heap) : Option (Bool × AV × Heap) :=
 kv1 args fun s_1 =>
 Heap.pushK h (.cells [(.int .i64 (.ofNat 0)), (.int .i64 (.ofNat 0)), (.int .i64 (.ofNat 0)), (.int .i64 (.ofNat 0)), (.int .i64 (.ofNat 0)), AV.nilslice] true 167) fun h2 =>
 ob (S 106 [s_1] h2) fun r3 => kres r3 (fun v4 h5 =>
 ob (S 107 [v4] h5) fun r8 => kres r8 (fun v9 h10 =>
 ob (S 107 [v4] h10) fun r13 => kres r13 (fun v14 h15 =>
 ob (S 107 [v4] h15) fun r18 => kres r18 (fun v19 h20 =>
 ob (S 107 [v4] h20) fun r23 => kres r23 (fun v24 h25 =>
 ob (S 107 [v4] h25) fun r28 => kres r28 (fun v29 h30 =>
 ob (S 108 [v4, (.int .i64 (.ofNat 256))] h30) fun r33 => kres r33 (fun v34 h35 =>
 ob (abuild Tryz.prog 167 [(0, v9), (1, v14), (2, v19), (3, v24), (4, v29), (5, v34)]) fun v38 =>
 Heap.pushK h35 (.cells [(.int .i64 (.ofNat 0)), (.int .i64 (.ofNat 0)), (.int .i64 (.ofNat 0)), (.int .i64 (.ofNat 0)), (.int .i64 (.ofNat 0)), AV.nilslice] true 167) fun h39 =>
 ob (kstore 6 (.ptr (Heap.next h35) 0) v38 h39) fun h40 =>
 ob (S 109 [v4] h40) fun r41 => kres r41 (fun v42 h43 =>
 ob (aextract v42 0) fun v46 =>
 ob (aextract v42 1) fun v47 =>
 ob (kbinI .neq v46 (.int .i64 (.ofNat 0))) fun v48 =>
 kif v48
  (ob (abuild Tryz.prog 167 []) fun v49 =>
  ob (kstore 6 (.ptr (Heap.next h) 0) v49 h43) fun h50 =>
  ob (kloadN 6 h50 (.ptr (Heap.next h) 0)) fun v51 => (some (false, (.tuple [v51, v46]), h50)))
  (ob (kloadN 6 h43 (.ptr (Heap.next h35) 0)) fun v52 =>
  ob (S 110 [v52] h43) fun r53 => kres r53 (fun v54 h55 =>
  ob (aun .not v54) fun v58 =>
  kif v58
   (ob (abuild Tryz.prog 167 []) fun v59 =>
   ob (kstore 6 (.ptr (Heap.next h) 0) v59 h55) fun h60 =>
   ob (kloadN 6 h60 (.ptr (Heap.next h) 0)) fun v61 => (some (false, (.tuple [v61, (.int .i64 (.ofNat 5))]), h60)))
   (ob (kloadN 6 h55 (.ptr (Heap.next h35) 0)) fun v62 =>
   ob (kstore 6 (.ptr (Heap.next h) 0) v62 h55) fun h63 =>
   ob (kloadN 6 h63 (.ptr (Heap.next h) 0)) fun v64 => (some (false, (.tuple [v64, (.int .i64 (.ofNat 0))]), h63)))) (fun p56 h57 => (some (true, p56, h57))))) (fun p44 h45 => (some (true, p44, h45)))) (fun p36 h37 => (some (true, p36, h37)))) (fun p31 h32 => (some (true, p31, h32)))) (fun p26 h27 => (some (true, p26, h27)))) (fun p21 h22 => (some (true, p21, h22)))) (fun p16 h17 => (some (true, p16, h17)))) (fun p11 h12 => (some (true, p11, h12)))) (fun p6 h7 => (some (true, p6, h7)))
theorem F69_ok {S : FS} {D : FD} (hS : SpecsOK Tryz.prog S) (hD : DynOK Tryz.prog D) : SpecOK Tryz.prog 69 (F69 S D) :=
  SpecOK.of (c := match Tryz.f69.body with | some c => c | none => .skip) (by kernel_rfl) hS hD ⟨Tryz.func69, rfl, by decide⟩
    (.seq .n (.seq .n (.seq .n (.seq (.seq .n (.seq .n (.dup (.seq .n .n) .n))) (.seq (.seq .n (.dup (.seq .n .n) .n)) (.seq .n .n)))))) 1 (fun args h => by kernel_rfl)
/-- roundhouse/rec.Fold -/
noncomputable def F70 (S : FS) (D : FD) (args : List AV) (h : Heap) : Option (Bool × AV × Heap) :=
 kv1 args fun l_1 =>
 Heap.pushK h (.cells [AV.nilslice, AV.nilslice, (.bool false)] true 85) fun h2 =>
 Heap.pushK h2 (.cells [AV.nilslice, AV.nilslice, (.bool false)] true 85) fun h3 =>
 ob (klenL l_1) fun v4 =>
 ob (iterD (fun vs5 ds6 h7 => kv6 vs5 fun l_8 v9 s_10 v11 v12 v13 =>
  ob (kbinI .lss v13 v12) fun v14 =>
  kif v14
   (ob (kia 6 v11 v13) fun v15 =>
   ob (kloadN 6 h7 v15) fun v16 =>
   Heap.pushK h7 (.cells [(.int .i64 (.ofNat 0)), (.int .i64 (.ofNat 0)), (.int .i64 (.ofNat 0)), (.int .i64 (.ofNat 0)), (.int .i64 (.ofNat 0)), AV.nilslice] true 167) fun h17 =>
   ob (kstore 6 (.ptr (Heap.next h7) 0) v16 h17) fun h18 =>
   ob (kloadN 3 h18 s_10) fun v19 =>
   ob (kloadN 6 h18 (.ptr (Heap.next h7) 0)) fun v20 =>
   ob (S 111 [v19, v20] h18) fun r21 => kres r21 (fun v22 h23 =>
   ob (aextract v22 0) fun v26 =>
   ob (aextract v22 1) fun v27 =>
   Heap.pushK h23 (.cells [AV.nilslice, AV.nilslice, (.bool false)] true 85) fun h28 =>
   ob (kstore 3 (.ptr (Heap.next h23) 0) v26 h28) fun h29 =>
   ob (kbinI .neq v27 (.int .i64 (.ofNat 0))) fun v30 =>
   kif v30
    (ob (kloadN 3 h29 s_10) fun v31 =>
    ob (kstore 3 v9 v31 h29) fun h32 =>
    (some ⟨2, [v9, v13], ds6, h32⟩))
    (ob (kloadN 3 h29 (.ptr (Heap.next h23) 0)) fun v33 =>
    ob (kstore 3 s_10 v33 h29) fun h34 =>
    ob (kbinI .add v13 (.int .i64 (.ofNat 1))) fun v35 =>
    (some ⟨0, [l_8, v9, s_10, v11, v12, v35], ds6, h34⟩))) (fun p24 h25 => (some ⟨3, [p24], ds6, h25⟩)))
   ((some ⟨1, [l_8, v9, s_10], ds6, h7⟩))) rounds [l_1, (.ptr (Heap.next h) 0), (.ptr (Heap.next h2) 0), l_1, v4, (.int .i64 (.ofNat 0))] [] h3) fun r36 => kcase (J.i r36) [kv3 (J.vs r36) fun l_37 v38 s_39 =>
  ob (kloadN 3 (J.h r36) s_39) fun v40 =>
  ob (klenL l_37) fun v41 =>
  ob (kstore 3 v38 v40 (J.h r36)) fun h42 =>
  (dleave (fun h43 => ob (kloadN 3 h43 v38) fun v44 => (some (false, (.tuple [v44, v41]), h43))) (J.ds r36) h42),
 kv2 (J.vs r36) fun v45 v46 =>
  (dleave (fun h47 => ob (kloadN 3 h47 v45) fun v48 => (some (false, (.tuple [v48, v46]), h47))) (J.ds r36) (J.h r36)),
 kv1 (J.vs r36) fun p49 => (kds (J.ds r36) (some (true, p49, (J.h r36))))]
theorem F70_ok {S : FS} {D : FD} (hS : SpecsOK Tryz.prog S) (hD : DynOK Tryz.prog D) : SpecOK Tryz.prog 70 (F70 S D) :=
  SpecOK.of (c := match Tryz.f70.body with | some c => c | none => .skip) (by kernel_rfl) hS hD ⟨Tryz.func70, rfl, by decide⟩
    (.seq .n (.seq .n (.seq (.seq .n (.one (.loop [0, 2, 4, 9, 10, 11] [(.exit 0, [0, 2, 4]), (.ret, [2, 3]), (.pan, [])] (.seq .n (.seq (.dup .n .n) (.seq (.one (.seq .n (.seq .n (.seq (.seq .n (.dup (.seq .n .n) .n)) .n)))) .n)))))) (.seq .n .n)))) 1 (fun args h => by kernel_rfl)
/-- slices.Sort[[]int,int] -/
noncomputable def F71 (S : FS) (D : FD) (args : List AV) (h : Heap) : Option (Bool × AV × Heap) :=
 kv1 args fun x_1 =>
 ob (klenL x_1) fun v2 =>
 ob (kconvI .u64 v2) fun v3 =>
 ob (S 25 [v3] h) fun r4 => kres r4 (fun v5 h6 =>
 ob (S 112 [x_1, (.int .i64 (.ofNat 0)), v2, v5] h6) fun r9 => kres r9 (fun v10 h11 =>
 (some (false, (.tuple []), h11))) (fun p12 h13 => (some (true, p12, h13)))) (fun p7 h8 => (some (true, p7, h8)))
theorem F71_ok {S : FS} {D : FD} (hS : SpecsOK Tryz.prog S) (hD : DynOK Tryz.prog D) : SpecOK Tryz.prog 71 (F71 S D) :=
  SpecOK.of (c := match Tryz.f71.body with | some c => c | none => .skip) (by kernel_rfl) hS hD ⟨Tryz.func71, rfl, by decide⟩
    (.seq .n .n) 1 (fun args h => by kernel_rfl)
/-- roundhouse/trace.told -/
noncomputable def F72 (S : FS) (D : FD) (args : List AV) (h : Heap) : Option (Bool × AV × Heap) :=
 kv2 args fun jobs_1 x_2 =>
 knt x_2 (Heap.pushK h (.cells (AV.cells x_2) true 174) fun h3 =>
 ob (kfa 2 (.ptr (Heap.next h) 0)) fun v4 =>
 ob (kload h3 v4) fun v5 =>
 ob (kbinI .lss v5 (.int .i64 (.ofNat 1))) fun v6 =>
 ob (kgv false v6 (kfa 2 (.ptr (Heap.next h) 0))) fun v7 =>
 ob (kgv false v6 (kload h3 v7)) fun v8 =>
 ob (kgv false v6 (some jobs_1)) fun v9 =>
 ob (kgv false v6 (klenL v9)) fun v10 =>
 ob (kgv false v6 (kbinI .gtr v8 v10)) fun v11 =>
 ob (kpick v6 (.bool true) v11) fun v12 =>
 ob (kgv false v12 (kfa 3 (.ptr (Heap.next h) 0))) fun v13 =>
 ob (kgv false v12 (kload h3 v13)) fun v14 =>
 ob (kgv false v12 (kbinI .lss v14 (.int .i64 (.ofNat 0)))) fun v15 =>
 ob (kpick v12 (.bool true) v15) fun v16 =>
 kif v16
  ((some (false, (.bool false), h3)))
  (ob (kfa 2 (.ptr (Heap.next h) 0)) fun v17 =>
  ob (kload h3 v17) fun v18 =>
  ob (kbinI .sub v18 (.int .i64 (.ofNat 1))) fun v19 =>
  ob (kia 2 jobs_1 v19) fun v20 =>
  ob (kloadN 2 h3 v20) fun v21 =>
  Heap.pushK h3 (.cells [AV.nilslice, AV.nilslice] true 67) fun h22 =>
  ob (kstore 2 (.ptr (Heap.next h3) 0) v21 h22) fun h23 =>
  ob (kfa 0 (.ptr (Heap.next h) 0)) fun v24 =>
  ob (kload h23 v24) fun v25 =>
  ob (S 113 [v25] h23) fun r26 => kres r26 (fun v27 h28 =>
  ob (aun .not v27) fun v31 =>
  ob (kgv true v31 (kfa 4 (.ptr (Heap.next h) 0))) fun v32 =>
  ob (kgv true v31 (kload h28 v32)) fun v33 =>
  ob (kgv true v31 (kbinI .lss v33 (.int .i64 (.ofNat 0)))) fun v34 =>
  ob (kgv true v31 (some v34)) fun v35 =>
  ob (kgv false v35 (kfa 4 (.ptr (Heap.next h) 0))) fun v36 =>
  ob (kgv false v35 (kload h28 v36)) fun v37 =>
  ob (kgv false v35 (kfa 1 (.ptr (Heap.next h3) 0))) fun v38 =>
  ob (kgv false v35 (kload h28 v38)) fun v39 =>
  ob (kgv false v35 (klenL v39)) fun v40 =>
  ob (kgv false v35 (kbinI .geq v37 v40)) fun v41 =>
  ob (kgv true v31 (kpick v35 (.bool true) v41)) fun v42 =>
  ob (kpick v31 v42 (.bool false)) fun v43 =>
  kif v43
   ((some (false, (.bool false), h28)))
   (ob (kfa 0 (.ptr (Heap.next h) 0)) fun v44 =>
   ob (kload h28 v44) fun v45 =>
   ob (kbinI .eql v45 (.int .i64 (.ofNat 10))) fun v46 =>
   ob (kgv false v46 (kfa 0 (.ptr (Heap.next h) 0))) fun v47 =>
   ob (kgv false v46 (kload h28 v47)) fun v48 =>
   ob (kgv false v46 (kbinI .eql v48 (.int .i64 (.ofNat 11)))) fun v49 =>
   ob (kpick v46 (.bool true) v49) fun v50 =>
   kif v50
    (ob (kfa 1 (.ptr (Heap.next h) 0)) fun v51 =>
    ob (kload h28 v51) fun v52 =>
    ob (kbinI .eql v52 (.int .i64 (.negSucc 0))) fun v53 =>
    (some (false, v53, h28)))
    (ob (kfa 0 (.ptr (Heap.next h) 0)) fun v54 =>
    ob (kload h28 v54) fun v55 =>
    ob (kbinI .geq v55 (.int .i64 (.ofNat 0))) fun v56 =>
    ob (kgv true v56 (kfa 0 (.ptr (Heap.next h) 0))) fun v57 =>
    ob (kgv true v56 (kload h28 v57)) fun v58 =>
    ob (kgv true v56 (kbinI .leq v58 (.int .i64 (.ofNat 7)))) fun v59 =>
    ob (kpick v56 v59 (.bool false)) fun v60 =>
    ob (kgv true v60 (kfa 0 (.ptr (Heap.next h3) 0))) fun v61 =>
    ob (kgv true v60 (kload h28 v61)) fun v62 =>
    ob (kgv true v60 (kfa 1 (.ptr (Heap.next h) 0))) fun v63 =>
    ob (kgv true v60 (kload h28 v63)) fun v64 =>
    ob (kgc true v60 h28 (S 114 [v62, v64] h28)) fun r65 => kres r65 (fun v66 h67 =>
    ob (kpick v60 v66 (.bool false)) fun v70 =>
    (some (false, v70, h67))) (fun p68 h69 => (some (true, p68, h69)))))) (fun p29 h30 => (some (true, p29, h30)))))
theorem F72_ok {S : FS} {D : FD} (hS : SpecsOK Tryz.prog S) (hD : DynOK Tryz.prog D) : SpecOK Tryz.prog 72 (F72 S D) :=
  SpecOK.of (c := match Tryz.f72.body with | some c => c | none => .skip) (by kernel_rfl) hS hD ⟨Tryz.func72, rfl, by decide⟩
    (.seq .n (.seq (.seq .n (.dup (.seq .n .n) .n)) (.seq .n (.seq (.one (.seq .n (.dup (.seq .n .n) (.seq .n (.dup (.seq .n .n) .n))))) (.seq .n .n))))) 2 (fun args h => by kernel_rfl)
/-- slices.Clone[[]roundhouse/api.Job,roundhouse/api.Job] -/
noncomputable def F74 (S : FS) (D : FD) (args : List AV) (h : Heap) : Option (Bool × AV × Heap) :=
 kv1 args fun s_1 =>
 ob (kbinO Tryz.prog .eql 71 true s_1 AV.nilslice) fun v2 =>
 kif v2
  ((some (false, AV.nilslice, h)))
  (ob (abuildSlice Tryz.prog 71 0 []) fun r3 => Heap.pushK h (.cells r3.1 true r3.2.2) fun h4 =>
  ob (aappend Tryz.prog h4 71 71 (.slice (Heap.next h) 0 0 0 r3.2.1) s_1) fun r5 =>
  (some (false, r5.1, r5.2)))
theorem F74_ok {S : FS} {D : FD} (hS : SpecsOK Tryz.prog S) (hD : DynOK Tryz.prog D) : SpecOK Tryz.prog 74 (F74 S D) :=
  SpecOK.of (c := match Tryz.f74.body with | some c => c | none => .skip) (by kernel_rfl) hS hD ⟨Tryz.func74, rfl, by decide⟩
    (.seq .n (.seq (.seq .n (.dup (.seq .n .n) .n)) (.seq .n .n))) 1 (fun args h => by kernel_rfl)
/-- slices.Clone[[]roundhouse/world.Event,roundhouse/world.Event] -/
noncomputable def F75 (S : FS) (D : FD) (args : List AV) (h : Heap) : Option (Bool × AV × Heap) :=
 kv1 args fun s_1 =>
 ob (kbinO Tryz.prog .eql 72 true s_1 AV.nilslice) fun v2 =>
 kif v2
  ((some (false, AV.nilslice, h)))
  (ob (abuildSlice Tryz.prog 72 0 []) fun r3 => Heap.pushK h (.cells r3.1 true r3.2.2) fun h4 =>
  ob (aappend Tryz.prog h4 72 72 (.slice (Heap.next h) 0 0 0 r3.2.1) s_1) fun r5 =>
  (some (false, r5.1, r5.2)))
theorem F75_ok {S : FS} {D : FD} (hS : SpecsOK Tryz.prog S) (hD : DynOK Tryz.prog D) : SpecOK Tryz.prog 75 (F75 S D) :=
  SpecOK.of (c := match Tryz.f75.body with | some c => c | none => .skip) (by kernel_rfl) hS hD ⟨Tryz.func75, rfl, by decide⟩
    (.seq .n (.seq (.seq .n (.dup (.seq .n .n) .n)) (.seq .n .n))) 1 (fun args h => by kernel_rfl)
/-- roundhouse/tally.silent[bool] -/
noncomputable def F76 (S : FS) (D : FD) (args : List AV) (h : Heap) : Option (Bool × AV × Heap) :=
 kv2 args fun nodes_1 m_2 =>
 knt m_2 (Heap.pushK h (.cells (AV.cells m_2) true 180) fun h3 =>
 ob (S 40 [nodes_1] h3) fun r4 => kres r4 (fun v5 h6 =>
 ob (S 121 [v5, (.func 122 [(.ptr (Heap.next h) 0)])] h6) fun r9 => kres r9 (fun v10 h11 =>
 (some (false, v10, h11))) (fun p12 h13 => (some (true, p12, h13)))) (fun p7 h8 => (some (true, p7, h8))))
theorem F76_ok {S : FS} {D : FD} (hS : SpecsOK Tryz.prog S) (hD : DynOK Tryz.prog D) : SpecOK Tryz.prog 76 (F76 S D) :=
  SpecOK.of (c := match Tryz.f76.body with | some c => c | none => .skip) (by kernel_rfl) hS hD ⟨Tryz.func76, rfl, by decide⟩
    (.seq .n (.seq .n .n)) 2 (fun args h => by kernel_rfl)
/-- roundhouse/tally.silent[int] -/
noncomputable def F77 (S : FS) (D : FD) (args : List AV) (h : Heap) : Option (Bool × AV × Heap) :=
 kv2 args fun nodes_1 m_2 =>
 knt m_2 (Heap.pushK h (.cells (AV.cells m_2) true 181) fun h3 =>
 ob (S 40 [nodes_1] h3) fun r4 => kres r4 (fun v5 h6 =>
 ob (S 121 [v5, (.func 123 [(.ptr (Heap.next h) 0)])] h6) fun r9 => kres r9 (fun v10 h11 =>
 (some (false, v10, h11))) (fun p12 h13 => (some (true, p12, h13)))) (fun p7 h8 => (some (true, p7, h8))))
theorem F77_ok {S : FS} {D : FD} (hS : SpecsOK Tryz.prog S) (hD : DynOK Tryz.prog D) : SpecOK Tryz.prog 77 (F77 S D) :=
  SpecOK.of (c := match Tryz.f77.body with | some c => c | none => .skip) (by kernel_rfl) hS hD ⟨Tryz.func77, rfl, by decide⟩
    (.seq .n (.seq .n .n)) 2 (fun args h => by kernel_rfl)
/-- roundhouse/agent.in -/
noncomputable def F78 (S : FS) (D : FD) (args : List AV) (h : Heap) : Option (Bool × AV × Heap) :=
 kv3 args fun n_1 least_2 most_3 =>
 ob (kbinI .geq n_1 least_2) fun v4 =>
 ob (kgv true v4 (some n_1)) fun v5 =>
 ob (kgv true v4 (some most_3)) fun v6 =>
 ob (kgv true v4 (kbinI .leq v5 v6)) fun v7 =>
 ob (kpick v4 v7 (.bool false)) fun v8 =>
 (some (false, v8, h))
theorem F78_ok {S : FS} {D : FD} (hS : SpecsOK Tryz.prog S) (hD : DynOK Tryz.prog D) : SpecOK Tryz.prog 78 (F78 S D) :=
  SpecOK.of (c := match Tryz.f78.body with | some c => c | none => .skip) (by kernel_rfl) hS hD ⟨Tryz.func78, rfl, by decide⟩
    (.seq .n (.seq .n .n)) 3 (fun args h => by kernel_rfl)
/-- roundhouse/cores.Check -/
noncomputable def F79 (S : FS) (D : FD) (args : List AV) (h : Heap) : Option (Bool × AV × Heap) :=
 kv1 args fun l_1 =>
 knt l_1 (Heap.pushK h (.cells (AV.cells l_1) true 57) fun h2 =>
 ob (kloadN 2 h2 (.ptr (Heap.next h) 0)) fun v3 =>
 ob (S 124 [v3] h2) fun r4 => kres r4 (fun v5 h6 =>
 ob (aun .not v5) fun v9 =>
 kif v9
  ((some (false, (.int .i64 (.ofNat 1)), h6)))
  ((some (false, (.int .i64 (.ofNat 0)), h6)))) (fun p7 h8 => (some (true, p7, h8))))
theorem F79_ok {S : FS} {D : FD} (hS : SpecsOK Tryz.prog S) (hD : DynOK Tryz.prog D) : SpecOK Tryz.prog 79 (F79 S D) :=
  SpecOK.of (c := match Tryz.f79.body with | some c => c | none => .skip) (by kernel_rfl) hS hD ⟨Tryz.func79, rfl, by decide⟩
    (.seq .n (.seq (.seq .n (.dup (.seq .n .n) .n)) (.seq .n .n))) 1 (fun args h => by kernel_rfl)
/-- roundhouse/procs.New -/
noncomputable def F80 (S : FS) (D : FD) (args : List AV) (h : Heap) : Option (Bool × AV × Heap) :=
 kv0 args (Heap.pushK h (.map [] [] 0) fun h1 =>
 ob (abuild Tryz.prog 137 [(0, (.map (Heap.next h)))]) fun v2 =>
 knt v2 (Heap.pushK h1 (.cells (AV.cells v2) true 137) fun h3 =>
 (some (false, (.ptr (Heap.next h1) 0), h3))))
theorem F80_ok {S : FS} {D : FD} (hS : SpecsOK Tryz.prog S) (hD : DynOK Tryz.prog D) : SpecOK Tryz.prog 80 (F80 S D) :=
  SpecOK.of (c := match Tryz.f80.body with | some c => c | none => .skip) (by kernel_rfl) hS hD ⟨Tryz.func80, rfl, by decide⟩
    (.seq .n (.seq .n .n)) 0 (fun args h => by kernel_rfl)
/-- roundhouse/acct.New -/
noncomputable def F81 (S : FS) (D : FD) (args : List AV) (h : Heap) : Option (Bool × AV × Heap) :=
 kv0 args (Heap.pushK h (.map [] [] 0) fun h1 =>
 ob (abuild Tryz.prog 224 [(0, (.map (Heap.next h)))]) fun v2 =>
 knt v2 (Heap.pushK h1 (.cells (AV.cells v2) true 224) fun h3 =>
 (some (false, (.ptr (Heap.next h1) 0), h3))))
theorem F81_ok {S : FS} {D : FD} (hS : SpecsOK Tryz.prog S) (hD : DynOK Tryz.prog D) : SpecOK Tryz.prog 81 (F81 S D) :=
  SpecOK.of (c := match Tryz.f81.body with | some c => c | none => .skip) (by kernel_rfl) hS hD ⟨Tryz.func81, rfl, by decide⟩
    (.seq .n (.seq .n .n)) 0 (fun args h => by kernel_rfl)
/-- (*roundhouse/agent.Agent).fresh -/
noncomputable def F82 (S : FS) (D : FD) (args : List AV) (h : Heap) : Option (Bool × AV × Heap) :=
 kv1 args fun a_1 =>
 ob (abuild Tryz.prog 85 []) fun v2 =>
 ob (knil a_1) fun v3 =>
 ob (kfa 5 v3) fun v4 =>
 ob (kfa 1 v4) fun v5 =>
 ob (kloadN 2 h v5) fun v6 =>
 ob (S 125 [v6] h) fun r7 => kres r7 (fun v8 h9 =>
 ob (S 126 [(.int .i64 (.ofNat 64))] h9) fun r12 => kres r12 (fun v13 h14 =>
 Heap.pushK h14 (.map [] [] 0) fun h17 =>
 ob (knil a_1) fun v18 =>
 ob (kfa 12 v18) fun v19 =>
 ob (kstore 3 v19 v2 h17) fun h20 =>
 ob (knil a_1) fun v21 =>
 ob (kfa 15 v21) fun v22 =>
 ob (kstore 1 v22 v8 h20) fun h23 =>
 ob (knil a_1) fun v24 =>
 ob (kfa 16 v24) fun v25 =>
 ob (kstore 1 v25 v13 h23) fun h26 =>
 ob (knil a_1) fun v27 =>
 ob (kfa 17 v27) fun v28 =>
 ob (kstore 1 v28 (.map (Heap.next h14)) h26) fun h29 =>
 (some (false, (.tuple []), h29))) (fun p15 h16 => (some (true, p15, h16)))) (fun p10 h11 => (some (true, p10, h11)))
theorem F82_ok {S : FS} {D : FD} (hS : SpecsOK Tryz.prog S) (hD : DynOK Tryz.prog D) : SpecOK Tryz.prog 82 (F82 S D) :=
  SpecOK.of (c := match Tryz.f82.body with | some c => c | none => .skip) (by kernel_rfl) hS hD ⟨Tryz.func82, rfl, by decide⟩
    .n 1 (fun args h => by kernel_rfl)
/-- (*roundhouse/world.World).submit -/
noncomputable def F83 (S : FS) (D : FD) (args : List AV) (h : Heap) : Option (Bool × AV × Heap) :=
 kv2 args fun w_1 o_2 =>
 knt o_2 (Heap.pushK h (.cells (AV.cells o_2) true 69) fun h3 =>
 ob (knil w_1) fun v4 =>
 ob (kfa 1 v4) fun v5 =>
 ob (kload h3 v5) fun v6 =>
 ob (kfa 4 (.ptr (Heap.next h) 0)) fun v7 =>
 ob (kloadN 2 h3 v7) fun v8 =>
 ob (S 127 [v6, v8] h3) fun r9 => kres r9 (fun v10 h11 =>
 ob (aextract v10 0) fun v14 =>
 ob (aextract v10 1) fun v15 =>
 ob (kbinI .neq v15 (.int .i64 (.ofNat 0))) fun v16 =>
 kif v16
  ((some (false, (.bool false), h11)))
  (ob (kfa 4 (.ptr (Heap.next h) 0)) fun v17 =>
  ob (kfa 0 v17) fun v18 =>
  ob (kload h11 v18) fun v19 =>
  ob (kfa 4 (.ptr (Heap.next h) 0)) fun v20 =>
  ob (kfa 1 v20) fun v21 =>
  ob (kload h11 v21) fun v22 =>
  kfree h11 (Heap.pushK h11 (.cells [AV.nilslice, AV.nilslice] true 67) fun h23 =>
  ob (S 40 [v19] h23) fun r24 => kres r24 (fun v25 h26 =>
  kro (Heap.next h11) h23 h26 (kre (kload h26 v21) v22 (ob (S 128 [v22] h26) fun r29 => kres r29 (fun v30 h31 =>
  kro (Heap.next h11) h23 h31 (ob (abuild Tryz.prog 67 [(0, v25), (1, v30)]) fun v34 =>
  ob (kstore 2 (.ptr (Heap.next h11) 0) v34 h31) fun h35 =>
  ob (kfa 1 (.ptr (Heap.next h11) 0)) fun v36 =>
  ob (kload h35 v36) fun v37 =>
  ob (klenL v37) fun v38 =>
  ob (iterD (fun vs39 ds40 h41 => kv4 vs39 fun w_42 j_43 v44 v45 =>
   ob (kbinI .lss v45 v44) fun v46 =>
   kif v46
    (ob (kfa 1 j_43) fun v47 =>
    ob (kload h41 v47) fun v48 =>
    ob (kfa 1 j_43) fun v49 =>
    ob (kload h41 v49) fun v50 =>
    ob (kia 5 v50 v45) fun v51 =>
    ob (kfa 4 v51) fun v52 =>
    ob (kload h41 v52) fun v53 =>
    ob (S 129 [v53] h41) fun r54 => kres r54 (fun v55 h56 =>
    kre (kload h56 v47) v48 (ob (kia 5 v48 v45) fun v59 =>
    ob (kfa 4 v59) fun v60 =>
    ob (kstore 1 v60 v55 h56) fun h61 =>
    ob (kbinI .add v45 (.int .i64 (.ofNat 1))) fun v62 =>
    (some ⟨0, [w_42, j_43, v44, v62], ds40, h61⟩))) (fun p57 h58 => none))
    ((some ⟨1, [w_42, j_43], ds40, h41⟩))) rounds [w_1, (.ptr (Heap.next h11) 0), v38, (.int .i64 (.ofNat 0))] [] h35) fun r63 => kcase (J.i r63) [kv2 (J.vs r63) fun w_64 j_65 =>
   ob (knil w_64) fun v66 =>
   ob (kfa 4 v66) fun v67 =>
   ob (kload (J.h r63) v67) fun v68 =>
   ob (kloadN 2 (J.h r63) j_65) fun v69 =>
   kfree (J.h r63) (ob (abuildSlice Tryz.prog 71 1 [(0, v69)]) fun r70 => Heap.pushK (J.h r63) (.cells r70.1 true r70.2.2) fun h71 =>
   ob (aappend Tryz.prog h71 71 71 v68 (.slice (Heap.next (J.h r63)) 0 1 1 r70.2.1)) fun r72 =>
   ob (knil w_64) fun v73 =>
   ob (kfa 4 v73) fun v74 =>
   ob (kstore 1 v74 r72.1 r72.2) fun h75 =>
   (dleave (fun h76 => (some (false, (.bool true), h76))) (J.ds r63) h75)),
  kv1 (J.vs r63) fun p77 => (kds (J.ds r63) (some (true, p77, (J.h r63))))])) (fun p32 h33 => none)))) (fun p27 h28 => none)))) (fun p12 h13 => (some (true, p12, h13))))
theorem F83_ok {S : FS} {D : FD} (hS : SpecsOK Tryz.prog S) (hD : DynOK Tryz.prog D) : SpecOK Tryz.prog 83 (F83 S D) :=
  SpecOK.of (c := match Tryz.f83.body with | some c => c | none => .skip) (by kernel_rfl) hS hD ⟨Tryz.func83, rfl, by decide⟩
    (.seq .n (.seq (.seq .n (.seq .n (.dup (.seq .n .n) .n))) (.seq .n (.seq (.seq .n (.one (.loop [0, 7, 32, 33] [(.exit 0, [0, 7]), (.pan, [])] (.seq .n (.seq (.dup .n .n) (.seq (.one (.seq .n .n)) .n)))))) (.seq .n (.seq .n .n)))))) 2 (fun args h => by kernel_rfl)
/-- (*roundhouse/world.World).tick -/
noncomputable def F84 (S : FS) (D : FD) (args : List AV) (h : Heap) : Option (Bool × AV × Heap) :=
 kv2 args fun w_1 v2 =>
 knt v2 (Heap.pushK h (.cells (AV.cells v2) true 69) fun h3 =>
 ob (knil w_1) fun v4 =>
 ob (kfa 3 v4) fun v5 =>
 ob (kload h3 v5) fun v6 =>
 ob (kbinI .geq v6 (.int .i64 (.ofNat 1048576))) fun v7 =>
 kif v7
  ((some (false, (.bool false), h3)))
  (ob (knil w_1) fun v8 =>
  ob (kfa 3 v8) fun v9 =>
  ob (kload h3 v9) fun v10 =>
  ob (kbinI .add v10 (.int .i64 (.ofNat 1))) fun v11 =>
  ob (knil w_1) fun v12 =>
  ob (kfa 3 v12) fun v13 =>
  ob (kstore 1 v13 v11 h3) fun h14 =>
  ob (knil w_1) fun v15 =>
  ob (kfa 0 v15) fun v16 =>
  ob (kload h14 v16) fun v17 =>
  ob (klenL v17) fun v18 =>
  ob (iterD (fun vs19 ds20 h21 => kv4 vs19 fun w_22 v23 v24 v25 =>
   ob (kbinI .lss v25 v24) fun v26 =>
   kif v26
    (ob (kia 1 v23 v25) fun v27 =>
    ob (kload h21 v27) fun v28 =>
    ob (knil w_22) fun v29 =>
    ob (kfa 3 v29) fun v30 =>
    ob (kload h21 v30) fun v31 =>
    ob (S 130 [v28, v31] h21) fun r32 => kres r32 (fun v33 h34 =>
    ob (kbinI .add v25 (.int .i64 (.ofNat 1))) fun v37 =>
    (some ⟨0, [w_22, v23, v24, v37], ds20, h34⟩)) (fun p35 h36 => (some ⟨2, [p35], ds20, h36⟩)))
    ((some ⟨1, [], ds20, h21⟩))) rounds [w_1, v17, v18, (.int .i64 (.ofNat 0))] [] h14) fun r38 => kcase (J.i r38) [kv0 (J.vs r38) ((dleave (fun h39 => (some (false, (.bool true), h39))) (J.ds r38) (J.h r38))),
  kv1 (J.vs r38) fun p40 => (kds (J.ds r38) (some (true, p40, (J.h r38))))]))
theorem F84_ok {S : FS} {D : FD} (hS : SpecsOK Tryz.prog S) (hD : DynOK Tryz.prog D) : SpecOK Tryz.prog 84 (F84 S D) :=
  SpecOK.of (c := match Tryz.f84.body with | some c => c | none => .skip) (by kernel_rfl) hS hD ⟨Tryz.func84, rfl, by decide⟩
    (.seq .n (.seq (.seq .n (.dup (.seq .n .n) .n)) (.seq .n (.seq (.seq .n (.one (.loop [0, 22, 23, 24] [(.exit 0, []), (.pan, [])] (.seq .n (.seq (.dup .n .n) (.seq (.one (.seq .n .n)) .n)))))) (.seq .n .n))))) 2 (fun args h => by kernel_rfl)
/-- (*roundhouse/world.World).send -/
noncomputable def F85 (S : FS) (D : FD) (args : List AV) (h : Heap) : Option (Bool × AV × Heap) :=
 kv2 args fun w_1 v2 =>
 knt v2 (Heap.pushK h (.cells (AV.cells v2) true 69) fun h3 =>
 ob (knil w_1) fun v4 =>
 ob (kfa 2 v4) fun v5 =>
 ob (kload h3 v5) fun v6 =>
 ob (knil w_1) fun v7 =>
 ob (kfa 1 v7) fun v8 =>
 ob (kload h3 v8) fun v9 =>
 ob (knil w_1) fun v10 =>
 ob (kfa 3 v10) fun v11 =>
 ob (kload h3 v11) fun v12 =>
 ob (S 132 [v9, v12] h3) fun r13 => kres r13 (fun v14 h15 =>
 kre (kload h15 v5) v6 (ob (S 131 [v6, v14] h15) fun r18 => kres r18 (fun v19 h20 =>
 (some (false, (.bool true), h20))) (fun p21 h22 => (some (true, p21, h22))))) (fun p16 h17 => none))
theorem F85_ok {S : FS} {D : FD} (hS : SpecsOK Tryz.prog S) (hD : DynOK Tryz.prog D) : SpecOK Tryz.prog 85 (F85 S D) :=
  SpecOK.of (c := match Tryz.f85.body with | some c => c | none => .skip) (by kernel_rfl) hS hD ⟨Tryz.func85, rfl, by decide⟩
    (.seq .n (.seq .n (.seq .n .n))) 2 (fun args h => by kernel_rfl)
/-- (*roundhouse/world.World).whole -/
noncomputable def F86 (S : FS) (D : FD) (args : List AV) (h : Heap) : Option (Bool × AV × Heap) :=
 kv2 args fun w_1 o_2 =>
 knt o_2 (Heap.pushK h (.cells (AV.cells o_2) true 69) fun h3 =>
 ob (kfa 1 (.ptr (Heap.next h) 0)) fun v4 =>
 ob (kload h3 v4) fun v5 =>
 ob (kfa 2 (.ptr (Heap.next h) 0)) fun v6 =>
 ob (kload h3 v6) fun v7 =>
 ob (kfa 3 (.ptr (Heap.next h) 0)) fun v8 =>
 ob (kload h3 v8) fun v9 =>
 ob (kbinI .sub v9 (.int .i64 (.ofNat 1))) fun v10 =>
 ob (abuild Tryz.prog 237 [(0, v7), (1, v10), (2, (.int .i64 (.negSucc 0)))]) fun v11 =>
 ob (S 133 [w_1, v5, v11] h3) fun r12 => kres r12 (fun v13 h14 =>
 (some (false, v13, h14))) (fun p15 h16 => (some (true, p15, h16))))
theorem F86_ok {S : FS} {D : FD} (hS : SpecsOK Tryz.prog S) (hD : DynOK Tryz.prog D) : SpecOK Tryz.prog 86 (F86 S D) :=
  SpecOK.of (c := match Tryz.f86.body with | some c => c | none => .skip) (by kernel_rfl) hS hD ⟨Tryz.func86, rfl, by decide⟩
    (.seq .n (.seq .n .n)) 2 (fun args h => by kernel_rfl)
/-- (*roundhouse/world.World).torn -/
noncomputable def F87 (S : FS) (D : FD) (args : List AV) (h : Heap) : Option (Bool × AV × Heap) :=
 kv2 args fun w_1 o_2 =>
 knt o_2 (Heap.pushK h (.cells (AV.cells o_2) true 69) fun h3 =>
 ob (kfa 1 (.ptr (Heap.next h) 0)) fun v4 =>
 ob (kload h3 v4) fun v5 =>
 ob (kfa 2 (.ptr (Heap.next h) 0)) fun v6 =>
 ob (kload h3 v6) fun v7 =>
 ob (amaxs true [v7, (.int .i64 (.ofNat 0))]) fun v8 =>
 ob (abuild Tryz.prog 237 [(1, (.int .i64 (.negSucc 0))), (2, v8)]) fun v9 =>
 ob (S 133 [w_1, v5, v9] h3) fun r10 => kres r10 (fun v11 h12 =>
 (some (false, v11, h12))) (fun p13 h14 => (some (true, p13, h14))))
theorem F87_ok {S : FS} {D : FD} (hS : SpecsOK Tryz.prog S) (hD : DynOK Tryz.prog D) : SpecOK Tryz.prog 87 (F87 S D) :=
  SpecOK.of (c := match Tryz.f87.body with | some c => c | none => .skip) (by kernel_rfl) hS hD ⟨Tryz.func87, rfl, by decide⟩
    (.seq .n (.seq .n .n)) 2 (fun args h => by kernel_rfl)
/-- (*roundhouse/world.World).drop -/
noncomputable def F88 (S : FS) (D : FD) (args : List AV) (h : Heap) : Option (Bool × AV × Heap) :=
 kv2 args fun w_1 o_2 =>
 knt o_2 (Heap.pushK h (.cells (AV.cells o_2) true 69) fun h3 =>
 ob (knil w_1) fun v4 =>
 ob (kfa 2 v4) fun v5 =>
 ob (kload h3 v5) fun v6 =>
 ob (kfa 1 (.ptr (Heap.next h) 0)) fun v7 =>
 ob (kload h3 v7) fun v8 =>
 ob (S 134 [v6, v8] h3) fun r9 => kres r9 (fun v10 h11 =>
 (some (false, v10, h11))) (fun p12 h13 => (some (true, p12, h13))))
theorem F88_ok {S : FS} {D : FD} (hS : SpecsOK Tryz.prog S) (hD : DynOK Tryz.prog D) : SpecOK Tryz.prog 88 (F88 S D) :=
  SpecOK.of (c := match Tryz.f88.body with | some c => c | none => .skip) (by kernel_rfl) hS hD ⟨Tryz.func88, rfl, by decide⟩
    (.seq .n (.seq .n .n)) 2 (fun args h => by kernel_rfl)
/-- (*roundhouse/world.World).twice -/
noncomputable def F89 (S : FS) (D : FD) (args : List AV) (h : Heap) : Option (Bool × AV × Heap) :=
 kv2 args fun w_1 o_2 =>
 knt o_2 (Heap.pushK h (.cells (AV.cells o_2) true 69) fun h3 =>
 ob (knil w_1) fun v4 =>
 ob (kfa 2 v4) fun v5 =>
 ob (kload h3 v5) fun v6 =>
 ob (kfa 1 (.ptr (Heap.next h) 0)) fun v7 =>
 ob (kload h3 v7) fun v8 =>
 ob (S 135 [v6, v8] h3) fun r9 => kres r9 (fun v10 h11 =>
 (some (false, v10, h11))) (fun p12 h13 => (some (true, p12, h13))))
theorem F89_ok {S : FS} {D : FD} (hS : SpecsOK Tryz.prog S) (hD : DynOK Tryz.prog D) : SpecOK Tryz.prog 89 (F89 S D) :=
  SpecOK.of (c := match Tryz.f89.body with | some c => c | none => .skip) (by kernel_rfl) hS hD ⟨Tryz.func89, rfl, by decide⟩
    (.seq .n (.seq .n .n)) 2 (fun args h => by kernel_rfl)
/-- (*roundhouse/world.World).exitWhole -/
noncomputable def F90 (S : FS) (D : FD) (args : List AV) (h : Heap) : Option (Bool × AV × Heap) :=
 kv2 args fun w_1 o_2 =>
 knt o_2 (Heap.pushK h (.cells (AV.cells o_2) true 69) fun h3 =>
 ob (kloadN 6 h3 (.ptr (Heap.next h) 0)) fun v4 =>
 ob (kfa 3 (.ptr (Heap.next h) 0)) fun v5 =>
 ob (kload h3 v5) fun v6 =>
 ob (S 137 [v6, (.int .i64 (.ofNat 256))] h3) fun r7 => kres r7 (fun v8 h9 =>
 kre (kloadN 6 h9 (.ptr (Heap.next h) 0)) v4 (ob (S 136 [w_1, v4, v8, (.int .i64 (.negSucc 0))] h9) fun r12 => kres r12 (fun v13 h14 =>
 (some (false, v13, h14))) (fun p15 h16 => (some (true, p15, h16))))) (fun p10 h11 => none))
theorem F90_ok {S : FS} {D : FD} (hS : SpecsOK Tryz.prog S) (hD : DynOK Tryz.prog D) : SpecOK Tryz.prog 90 (F90 S D) :=
  SpecOK.of (c := match Tryz.f90.body with | some c => c | none => .skip) (by kernel_rfl) hS hD ⟨Tryz.func90, rfl, by decide⟩
    (.seq .n (.seq .n .n)) 2 (fun args h => by kernel_rfl)
/-- (*roundhouse/world.World).exitTorn -/
noncomputable def F91 (S : FS) (D : FD) (args : List AV) (h : Heap) : Option (Bool × AV × Heap) :=
 kv2 args fun w_1 o_2 =>
 knt o_2 (Heap.pushK h (.cells (AV.cells o_2) true 69) fun h3 =>
 ob (kloadN 6 h3 (.ptr (Heap.next h) 0)) fun v4 =>
 ob (kfa 3 (.ptr (Heap.next h) 0)) fun v5 =>
 ob (kload h3 v5) fun v6 =>
 ob (amaxs true [v6, (.int .i64 (.ofNat 0))]) fun v7 =>
 ob (S 136 [w_1, v4, (.int .i64 (.ofNat 0)), v7] h3) fun r8 => kres r8 (fun v9 h10 =>
 (some (false, v9, h10))) (fun p11 h12 => (some (true, p11, h12))))
theorem F91_ok {S : FS} {D : FD} (hS : SpecsOK Tryz.prog S) (hD : DynOK Tryz.prog D) : SpecOK Tryz.prog 91 (F91 S D) :=
  SpecOK.of (c := match Tryz.f91.body with | some c => c | none => .skip) (by kernel_rfl) hS hD ⟨Tryz.func91, rfl, by decide⟩
    (.seq .n (.seq .n .n)) 2 (fun args h => by kernel_rfl)
end Go.Rh.Tryz
