/- (*strings.Builder).copyCheck: what it answers. -/
import Derived.Test.YtepgjdoablhgmaaGreatProg
import Derived.Test.YtepgjdoablhgmaaGreatRh3
import Derived.Lib.Builder
import Derived.WalkKit
import Derived.Laws.Externs
set_option maxRecDepth 100000
set_option maxHeartbeats 1000000
namespace Go.Rh.Tryz
open Go.Proofs Go.RowKit
theorem cc_fresh (b : Nat) (w : World) (h0 : w.cell? ⟨b, 0, none⟩ = some (.pointer none)) (hsh : w.shape? b = some (347, 2)) (hfz : w.frozen? ⟨b, 0, none⟩ = false) :
    Calls Tryz.prog 301 #[.pointer (some ⟨b, 0, none⟩)] w fun e w' => e = .returned (.tuple #[]) ∧ w' = w.setCell ⟨b, 0, none⟩ (.pointer (some ⟨b, 0, none⟩)) := by
  obtain ⟨j, hj, hjs⟩ := Option.map_eq_some_iff.1 (show (Tryz.prog.info? 347).map (·.size) = some 2 by kernel_rfl)
  go_enter Tryz.func301, Tryz.ntmps301
  go_wp2
  rw [Lib.run_to_unsafe w ⟨b, 0, none⟩ Tryz.underlying344 Tryz.underlying460 hj (by rw [hjs]; decide) hsh (Nat.zero_lt_succ 1)]
  simp only [Result.andThen]
  rw [Oper.upon_value]
  go_wp2
  rw [run_callFunc_extern Tryz.func357 (by kernel_rfl) (by kernel_rfl) (by kernel_rfl) (e := Extern.AbiNoEscape.same) (by kernel_rfl)]
  rw [Lib.run_noEscape]
  simp only [Result.andThen]
  rw [Oper.upon_value]
  go_wp2
  rw [Lib.run_from_unsafe w ⟨b, 0, none⟩ Tryz.underlying460 Tryz.underlying344 hj hsh (by kernel_rfl)]
  simp only [Result.andThen]
  rw [Oper.upon_value]
  go_wp2
  go_end0
  exact ⟨rfl, rfl⟩
theorem cc_used (b : Nat) (w : World) (h0 : w.cell? ⟨b, 0, none⟩ = some (.pointer (some ⟨b, 0, none⟩))) :
    Calls Tryz.prog 301 #[.pointer (some ⟨b, 0, none⟩)] w fun e w' => e = .returned (.tuple #[]) ∧ w' = w := by
  obtain ⟨j, hj, hjs⟩ := Option.map_eq_some_iff.1 (show (Tryz.prog.info? 347).map (·.size) = some 2 by kernel_rfl)
  go_enter Tryz.func301, Tryz.ntmps301
  go_wp2
  rw [Lib.run_neq_ptr_same w _ Tryz.underlying344 hj]
  go_wp2
  go_end0
  exact ⟨rfl, rfl⟩
def specCC (args : List AV) (h : Heap) : Option (Bool × AV × Heap) :=
  match args with
  | [.ptr l 0] => match T.get l h.m with
    | some (.cells [.nilptr, b] true el) => match Nat.beq el 347 with
      | true => T.setK h.m l (some (.cells [.ptr l 0, b] true el)) fun m => some (false, .tuple [], ⟨h.next, m⟩)
      | false => none
    | some (.cells [.ptr l' 0, _] _ _) => match Pos.beq l l' with
      | true => some (false, .tuple [], h)
      | false => none
    | _ => none
  | _ => none
theorem enters : ∀ (cargs : Array Value) (w : World), (callFunc 301 cargs).run Tryz.prog w = .ok (.enter 301 cargs) w := by
  have : afn Tryz.prog 301 = some (Tryz.f301, match Tryz.f301.body with | some c => c | none => .skip) := by kernel_rfl
  exact (afn_sound this).2.2
theorem specCC_ok : SpecOK Tryz.prog 301 specCC := by
  intro args h b v h' hv ρ w cargs hc hh
  refine ⟨callsIn_wide.2 ?_, fun w1 => enters cargs w1⟩
  unfold specCC at hv
  split at hv
  · rename_i l
    obtain ⟨c, cs', e1, ⟨i, hi, rfl⟩, e2⟩ := hc
    simp only [VRs] at e2; subst e2
    have hca : cargs = #[.pointer (some ⟨i.blk, 0, none⟩)] := by apply Array.toList_inj.1; simpa using e1
    subst hca
    split at hv
    · rename_i b1 el hg
      split at hv
      · rename_i he
        have he := Nat.eq_of_beq_eq_true he
        subst he
        rw [T.setK_eq] at hv
        simp only [Option.some.injEq, Prod.mk.injEq] at hv
        obtain ⟨rfl, rfl, rfl⟩ := hv
        obtain ⟨hlt, hob⟩ := hh.obj l i hi
        have hob := hob _ hg
        have hob0 := hob
        obtain ⟨cc, fz, hblk, hsz, hext, hex, hxx, hle, hvs, hfz⟩ := hob
        have hcs : cc.size = 2 := hxx rfl
        have hvs' := hvs
        rw [List.take_of_length_le (by simp [hcs])] at hvs'
        obtain ⟨c0, r0, ec, hc0, c1, r1, er, hc1, er1⟩ := hvs'
        simp only [VR] at hc0; subst hc0
        simp only [VRs] at er1; subst er1; subst er
        have hcell : w.cell? ⟨i.blk, 0, none⟩ = some (.pointer none) := by
          have : cc[0]? = some (.pointer none) := by rw [← Array.getElem?_toList, ec]; rfl
          simp [World.cell?, hblk, this]
        refine (cc_fresh i.blk w hcell (by simp [World.shape?, hblk, hcs]) (by simp only [World.frozen?, hblk]; have := hfz 0 (by omega); simp only [Bool.and_eq_false_iff, decide_eq_false_iff_not]; by_cases h0 : fz.1 ≤ 0 <;> simp_all)).mono ?_
        rintro e w' ⟨rfl, rfl⟩
        have hheap := setCell_heap w i.blk 0 cc 347 fz (.pointer (some ⟨i.blk, 0, none⟩)) hblk
        have hk : ∀ b, b ≠ i.blk → (w.setCell ⟨i.blk, 0, none⟩ (.pointer (some ⟨i.blk, 0, none⟩))).heap[b]? = w.heap[b]? := fun b hb => by
          rw [hheap]; exact Array.getElem?_setIfInBounds_ne (Ne.symm hb)
        have hsize : (w.setCell ⟨i.blk, 0, none⟩ (.pointer (some ⟨i.blk, 0, none⟩))).heap.size = w.heap.size := by rw [hheap]; simp
        refine ⟨ρ, ⟨_, ⟨#[], rfl, rfl⟩, rfl⟩, hh.upd hi hg hsize hk ?_, Ext.upd hi hsize hk rfl rfl rfl⟩
        rw [hheap, Array.getElem?_setIfInBounds_self_of_lt hlt]
        refine ⟨_, fz, rfl, by simpa using hsz, hext, hex, by simp [hcs], by simp [hcs], ?_, by simpa using hfz⟩
        rw [List.take_of_length_le (by simp [hcs])]
        have : (cc.setIfInBounds 0 (.pointer (some ⟨i.blk, 0, none⟩))).toList = [.pointer (some ⟨i.blk, 0, none⟩), c1] := by simp [ec]
        rw [this]
        exact ⟨_, _, rfl, ⟨i, hi, rfl⟩, _, _, rfl, hc1, rfl⟩
      · cases hv
    · rename_i l' b1 ex el hg
      split at hv
      · rename_i hb
        have hb := Pos.beq_iff.1 hb
        subst hb
        simp only [Option.some.injEq, Prod.mk.injEq] at hv
        obtain ⟨rfl, rfl, rfl⟩ := hv
        have hld : aload h l 0 = some (.ptr l 0) := by simp [aload, hg]
        obtain ⟨x, hx, hr⟩ := mem_load hh hi hld
        obtain ⟨i', hi', rfl⟩ := hr
        rw [hi] at hi'; cases hi'
        refine (cc_used i.blk w hx).mono ?_
        rintro e w' ⟨rfl, rfl⟩
        exact ⟨ρ, ⟨_, ⟨#[], rfl, rfl⟩, rfl⟩, hh, Ext.refl _ _⟩
      · cases hv
    · cases hv
  · cases hv
end Go.Rh.Tryz
