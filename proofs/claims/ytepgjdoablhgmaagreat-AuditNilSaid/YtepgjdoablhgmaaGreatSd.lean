/- slices.Sorted(maps.Keys(m)) at keys that are ints: the kit's contracts, laid over this program. -/
import Derived.Shelf.SlIterI.Nil
import Derived.Shelf.SortM.Plain
import Derived.Shelf.SortM.SortNone
import Derived.Test.YtepgjdoablhgmaaGreatProg
import Derived.Test.YtepgjdoablhgmaaGreatRh3
set_option maxRecDepth 1000000
namespace Go.Rh.Tryz
open Go.Proofs Go.RowKit Go.Maps Go.Sort Go.Shelf Go.WideShapes Go.MapKept
def keysA_ren : Go.Shelf.Ren := ⟨fun | 7 => 49 | 10 => 97 | n => n, fun | 23 => 134 | 26 => 3 | 3 => 135 | 28 => 132 | 0 => 0 | 27 => 131 | 33 => 31 | 4 => 4 | n => n, fun n => n⟩
theorem keysA : SlLaysZI.n10 Tryz.prog keysA_ren where
  mixed := by kernel_rfl
  f10 := ⟨ "maps.Keys[map[int]*roundhouse/procs.process,int,*roundhouse/procs.process]$1", by decide, Tryz.func97.trans (congrArg some (by kernel_rfl))⟩
  t0 := Tryz.underlying0
  a0 := Tryz.isAgg0
  z0 := Tryz.sizeOf0
  v0 := Tryz.zeroValue0
  t4 := Tryz.underlying4
  a4 := Tryz.isAgg4
  z4 := Tryz.sizeOf4
  v4 := Tryz.zeroValue4
  t23 := Tryz.underlying134
  a23 := Tryz.isAgg134
  z23 := Tryz.sizeOf134
  v23 := Tryz.zeroValue134
  t26 := Tryz.underlying3
  a26 := Tryz.isAgg3
  z26 := Tryz.sizeOf3
  v26 := Tryz.zeroValue3
  t33 := Tryz.underlying31
  a33 := Tryz.isAgg31
  z33 := Tryz.sizeOf31
  v33 := Tryz.zeroValue31
def sortedA_ren : Go.Shelf.Ren := ⟨fun | 6 => 48 | 8 => 96 | 9 => 71 | 11 => 142 | 13 => 25 | 12 => 112 | 23 => 58 | 24 => 59 | 14 => 159 | 15 => 160 | 16 => 161 | 17 => 162 | 18 => 163 | 19 => 164 | 20 => 165 | 21 => 166 | 22 => 167 | 25 => 218 | 26 => 99 | 27 => 100 | 28 => 219 | 29 => 220 | 30 => 60 | 31 => 285 | n => n, fun | 26 => 3 | 28 => 132 | 24 => 37 | 0 => 0 | 3 => 3 | 37 => 93 | 48 => 149 | 50 => 96 | 4 => 4 | 40 => 142 | 39 => 141 | 45 => 146 | 5 => 5 | 9 => 9 | 51 => 194 | 55 => 198 | 57 => 242 | 58 => 243 | 33 => 31 | n => n, fun n => n⟩
theorem sortedA : SlLaysZI.n6 Tryz.prog sortedA_ren where
  mixed := by kernel_rfl
  f6 := ⟨ "slices.Sorted[int]", by decide, Tryz.func48.trans (congrArg some (by kernel_rfl))⟩
  f8 := ⟨ "slices.Collect[int]", by decide, Tryz.func96.trans (congrArg some (by kernel_rfl))⟩
  f11 := ⟨ "slices.AppendSeq[[]int,int]", by decide, Tryz.func142.trans (congrArg some (by kernel_rfl))⟩
  t0 := Tryz.underlying0
  a0 := Tryz.isAgg0
  z0 := Tryz.sizeOf0
  v0 := Tryz.zeroValue0
  t24 := Tryz.underlying37
  a24 := Tryz.isAgg37
  z24 := Tryz.sizeOf37
  v24 := Tryz.zeroValue37
  t26 := Tryz.underlying3
  a26 := Tryz.isAgg3
  z26 := Tryz.sizeOf3
  v26 := Tryz.zeroValue3
  t28 := Tryz.underlying132
  a28 := Tryz.isAgg132
  z28 := Tryz.sizeOf132
  v28 := Tryz.zeroValue132
  i26 := by kernel_rfl
def sortA_ren : Go.Shelf.Ren := ⟨fun | 5 => 71 | 8 => 25 | 7 => 112 | 19 => 58 | 20 => 59 | 10 => 159 | 11 => 160 | 12 => 161 | 13 => 162 | 14 => 163 | 15 => 164 | 16 => 165 | 17 => 166 | 18 => 167 | 30 => 218 | 31 => 99 | 32 => 100 | 33 => 219 | 34 => 220 | 35 => 60 | 40 => 285 | n => n, fun | 23 => 37 | 25 => 3 | 3 => 3 | 32 => 93 | 22 => 37 | 0 => 0 | 44 => 149 | 46 => 96 | 4 => 4 | 36 => 142 | 35 => 141 | 41 => 146 | 5 => 5 | 9 => 9 | 53 => 194 | 57 => 198 | 63 => 242 | 64 => 243 | n => n, fun n => n⟩
theorem sortA : SlLaysM.n5 Tryz.prog sortA_ren where
  mixed := by kernel_rfl
  f5 := ⟨ "slices.Sort[[]int,int]", by decide, Tryz.func71.trans (congrArg some (by kernel_rfl))⟩
  f7 := ⟨ "slices.pdqsortOrdered[int]", by decide, Tryz.func112.trans (congrArg some (by kernel_rfl))⟩
  f8 := Tryz.func25.trans (congrArg some (by kernel_rfl))
  f10 := ⟨ "slices.insertionSortOrdered[int]", by decide, Tryz.func159.trans (congrArg some (by kernel_rfl))⟩
  f11 := ⟨ "slices.heapSortOrdered[int]", by decide, Tryz.func160.trans (congrArg some (by kernel_rfl))⟩
  f12 := ⟨ "slices.breakPatternsOrdered[int]", by decide, Tryz.func161.trans (congrArg some (by kernel_rfl))⟩
  f13 := ⟨ "slices.choosePivotOrdered[int]", by decide, Tryz.func162.trans (congrArg some (by kernel_rfl))⟩
  f14 := ⟨ "slices.reverseRangeOrdered[int]", by decide, Tryz.func163.trans (congrArg some (by kernel_rfl))⟩
  f15 := ⟨ "slices.partialInsertionSortOrdered[int]", by decide, Tryz.func164.trans (congrArg some (by kernel_rfl))⟩
  f16 := ⟨ "cmp.Less[int]", by decide, Tryz.func165.trans (congrArg some (by kernel_rfl))⟩
  f17 := ⟨ "slices.partitionEqualOrdered[int]", by decide, Tryz.func166.trans (congrArg some (by kernel_rfl))⟩
  f18 := ⟨ "slices.partitionOrdered[int]", by decide, Tryz.func167.trans (congrArg some (by kernel_rfl))⟩
  f19 := Tryz.func58.trans (congrArg some (by kernel_rfl))
  f20 := Tryz.func59.trans (congrArg some (by kernel_rfl))
  f30 := ⟨ "slices.siftDownOrdered[int]", by decide, Tryz.func218.trans (congrArg some (by kernel_rfl))⟩
  f31 := Tryz.func99.trans (congrArg some (by kernel_rfl))
  f32 := Tryz.func100.trans (congrArg some (by kernel_rfl))
  f33 := ⟨ "slices.medianAdjacentOrdered[int]", by decide, Tryz.func219.trans (congrArg some (by kernel_rfl))⟩
  f34 := ⟨ "slices.medianOrdered[int]", by decide, Tryz.func220.trans (congrArg some (by kernel_rfl))⟩
  f35 := ⟨ "cmp.isNaN[int]", by decide, Tryz.func60.trans (congrArg some (by kernel_rfl))⟩
  f40 := ⟨ "slices.order2Ordered[int]", by decide, Tryz.func285.trans (congrArg some (by kernel_rfl))⟩
  t0 := Tryz.underlying0
  a0 := Tryz.isAgg0
  z0 := Tryz.sizeOf0
  v0 := Tryz.zeroValue0
  t3 := Tryz.underlying3
  a3 := Tryz.isAgg3
  z3 := Tryz.sizeOf3
  v3 := Tryz.zeroValue3
  t4 := Tryz.underlying4
  a4 := Tryz.isAgg4
  z4 := Tryz.sizeOf4
  v4 := Tryz.zeroValue4
  t5 := Tryz.underlying5
  a5 := Tryz.isAgg5
  z5 := Tryz.sizeOf5
  v5 := Tryz.zeroValue5
  t9 := Tryz.underlying9
  a9 := Tryz.isAgg9
  z9 := Tryz.sizeOf9
  v9 := Tryz.zeroValue9
  t22 := Tryz.underlying37
  a22 := Tryz.isAgg37
  z22 := Tryz.sizeOf37
  v22 := Tryz.zeroValue37
  t23 := Tryz.underlying37
  a23 := Tryz.isAgg37
  z23 := Tryz.sizeOf37
  v23 := Tryz.zeroValue37
  t25 := Tryz.underlying3
  a25 := Tryz.isAgg3
  z25 := Tryz.sizeOf3
  v25 := Tryz.zeroValue3
  t32 := Tryz.underlying93
  a32 := Tryz.isAgg93
  z32 := Tryz.sizeOf93
  v32 := Tryz.zeroValue93
  t35 := Tryz.underlying141
  a35 := Tryz.isAgg141
  z35 := Tryz.sizeOf141
  v35 := Tryz.zeroValue141
  t36 := Tryz.underlying142
  a36 := Tryz.isAgg142
  z36 := Tryz.sizeOf142
  v36 := Tryz.zeroValue142
  t41 := Tryz.underlying146
  a41 := Tryz.isAgg146
  z41 := Tryz.sizeOf146
  v41 := Tryz.zeroValue146
  t44 := Tryz.underlying149
  a44 := Tryz.isAgg149
  z44 := Tryz.sizeOf149
  v44 := Tryz.zeroValue149
  t46 := Tryz.underlying96
  a46 := Tryz.isAgg96
  z46 := Tryz.sizeOf96
  v46 := Tryz.zeroValue96
  t53 := Tryz.underlying194
  a53 := Tryz.isAgg194
  z53 := Tryz.sizeOf194
  v53 := Tryz.zeroValue194
  t57 := Tryz.underlying198
  a57 := Tryz.isAgg198
  z57 := Tryz.sizeOf198
  v57 := Tryz.zeroValue198
  t63 := Tryz.underlying242
  a63 := Tryz.isAgg242
  z63 := Tryz.sizeOf242
  v63 := Tryz.zeroValue242
  t64 := Tryz.underlying243
  a64 := Tryz.isAgg243
  z64 := Tryz.sizeOf243
  v64 := Tryz.zeroValue243
theorem sortsA (m : Nat) : AnyZI.SortsIn Tryz.prog sortedA_ren Fence.wide m :=
  ⟨fun blk off cap ss W hH hblk hsz => callsIn_wide.2 (AnyM.slices_Sort_int sortA blk off cap ss W hH hblk hsz),
   fun p cap W => callsIn_wide.2 (AnyM.slices_Sort_int_none sortA p cap W)⟩
theorem entersS : ∀ (cargs : Array Value) (w : World), (callFunc 48 cargs).run Tryz.prog w = .ok (.enter 48 cargs) w := enters_of Tryz.func48 (by kernel_rfl) rfl
theorem sortedSays : SortedSays Tryz.prog 48 97 3 := by
  intro Bm b es clock ks w hBm hcell hb hborn hnd hkeys hndk hbound hlen
  have hR : ∀ x ∈ es.toList, ∃ k, k ∈ ks ∧ x.key = .int .i64 k := fun x hx => by
    have : x.key ∈ es.toList.map (·.key) := List.mem_map_of_mem hx
    rw [hkeys, List.mem_map] at this
    obtain ⟨k, h1, h2⟩ := this
    exact ⟨k, h1, h2.symm⟩
  have hkey : ∀ k ∈ ks, keyOf Tryz.prog 3 (.int .i64 k) = some (.int .i64 k) := fun k hk => by
    obtain ⟨h1, h2⟩ := hbound k hk
    simp only [keyOf, Tryz.underlying3, mapKey]
    have hmin : IntKind.i64.min = -9223372036854775808 := by decide
    have hmax : IntKind.i64.max = 9223372036854775807 := by decide
    rw [if_pos ⟨trivial, by simp only [Lit.wf, Bool.and_eq_true, decide_eq_true_eq, hmin, hmax]; omega⟩]
  have hrd : ∀ x ∈ es.toList, ∀ k, x.key = .int .i64 k → k ∈ ks → WideElems.rd Tryz.prog 3 (fun _ => some ((.nil : DataW Unit), [])) x = some (.int .i64 k, .nil) := fun x _ k hx hk => by
    simp only [WideElems.rd, hx, hkey k hk, Option.bind_some, Option.map_some]
  have hfit : WideElems.Fit Tryz.prog 3 (fun _ => some ((.nil : DataW Unit), [])) es clock := by
    refine ⟨?_, (stamped_iff es clock).2 ⟨hborn, hnd, ?_⟩, fun x hx => ?_⟩
    · have := congrArg List.length hkeys
      simp only [List.length_map, Array.length_toList] at this
      unfold maxLen; omega
    · have : (es.toList.map (·.key)).Pairwise (· ≠ ·) := by
        rw [hkeys]
        exact List.pairwise_map.2 (hndk.imp fun h e => h (by cases e; rfl))
      exact List.pairwise_map.1 this
    · obtain ⟨k, h1, h2⟩ := hR x hx
      exact ⟨_, hrd x hx k h2 h1⟩
  have hown : w.ownsMap Tryz.prog 3 (fun _ => some ((.nil : DataW Unit), [])) b es.size (.map ((es.toList.map (WideElems.rg Tryz.prog 3 fun _ => some ((.nil : DataW Unit), []))).foldr DataW.insert [])) := ⟨es, clock, hb, hfit, Nat.le_refl _, rfl⟩
  have hsz : es.size = ks.length := by
    have := congrArg List.length hkeys
    simpa using this
  have hlenD : Maps.size (DataW.map ((es.toList.map (WideElems.rg Tryz.prog 3 fun _ => some ((.nil : DataW Unit), []))).foldr DataW.insert [])) = ks.length := by
    show (List.foldr DataW.insert [] _).length = _
    rw [(sorted_perm _).length_eq, List.length_map, Array.length_toList, hsz]
  have hseq := AnyZI.keys_gives (ρ := keysA_ren) keysA Fence.wide 2 trivial rfl (by omega) Bm b es.size _ w hBm hcell hown
  have cS := AnyZI.sorted_in sortedA Fence.wide 5 trivial trivial trivial trivial rfl (by omega) (sortsA _) (enters_of Tryz.func71 (by kernel_rfl) rfl) 97 #[.pointer (some ⟨Bm, 0, none⟩)] trivial (enters_of Tryz.func97 (by kernel_rfl) rfl) _ _ (by rw [hlenD]; unfold maxLen; omega) (by rw [hlenD]; omega) w hseq
  refine (callsIn_wide (n := 5)).1 (CallsIn.mono cS ?_)
  rintro e w' ⟨v, ss, rfl, hS, hrow, hnil, hbl⟩
  refine ⟨v, ss, rfl, hS.trans ?_, hrow, hnil, hbl⟩
  have h1 : (intKeys (DataW.map ((es.toList.map (WideElems.rg Tryz.prog 3 fun _ => some ((.nil : DataW Unit), []))).foldr DataW.insert []))).Perm ((es.toList.map (WideElems.rg Tryz.prog 3 fun _ => some ((.nil : DataW Unit), []))).map fun p => Go.intOf p.1) := (sorted_perm _).map _
  have h2 : (es.toList.map (WideElems.rg Tryz.prog 3 fun _ => some ((.nil : DataW Unit), []))).map (fun p => Go.intOf p.1) = ks := by
    rw [List.map_map]
    have : ∀ (l : List MapEntry) (ks' : List Int), (∀ x ∈ l, x ∈ es.toList) → l.map (·.key) = ks'.map (Value.int .i64) → (∀ k ∈ ks', k ∈ ks) → l.map ((fun p => Go.intOf p.1) ∘ WideElems.rg Tryz.prog 3 fun _ => some ((.nil : DataW Unit), [])) = ks' := by
      intro l
      induction l with
      | nil => intro ks' _ h _; cases ks' with | nil => rfl | cons => simp at h
      | cons x l ih =>
        intro ks' hm h hk
        cases ks' with
        | nil => simp at h
        | cons k ks' =>
          simp only [List.map_cons, List.cons.injEq] at h
          simp only [List.map_cons, Function.comp, List.cons.injEq]
          refine ⟨?_, ih ks' (fun y hy => hm y (List.mem_cons_of_mem _ hy)) h.2 (fun y hy => hk y (List.mem_cons_of_mem _ hy))⟩
          rw [WideElems.rg_of (hrd x (hm x List.mem_cons_self) k h.1 (hk k List.mem_cons_self))]
          rfl
    exact this es.toList ks (fun _ h => h) hkeys (fun _ h => h)
  rw [h2] at h1
  exact h1
noncomputable def specSorted := specSortedK 97 3
theorem sorted_ok : SpecOK Tryz.prog 48 specSorted := specSortedK_ok sortedSays entersS
end Go.Rh.Tryz
