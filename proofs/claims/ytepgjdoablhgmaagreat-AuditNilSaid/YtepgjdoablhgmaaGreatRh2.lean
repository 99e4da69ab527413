/- An evaluator of the model's code over abstract heaps, and that it is right; part 2. No condition. -/
import Derived.Test.YtepgjdoablhgmaaGreatRh1
import Derived.RecoverIn
import Derived.OrdersIn
/- The evaluator is right: code, functions. -/
namespace Go.Rh
variable {P : Program}

def DrawsOK (P : Program) (dr : Draws) : Prop := ∀ sf, SelfOK P sf → ∀ rd nt ops s x s' id, dr sf rd nt ops s = some (x, s') → CodeOK P rd nt (.region id ops true) s x s'
def SpecsOK (P : Program) (σ : Specs) : Prop := ∀ f args h b v h', σ f args h = some (b, v, h') → CallOK P f args h b v h'

theorem CodePost.trans {ρ ρ1 : Ren} {w w1 : World} {nt : Nat} {x : AEx} {s' : ASt} (hx : Ext ρ w ρ1 w1) {e : Exit} {a' : Act} {w' : World} (h : CodePost ρ1 w1 nt x s' e a' w') : CodePost ρ w nt x s' e a' w' := by
  obtain ⟨ρ', h1, h2, h3⟩ := h; exact ⟨ρ', hx.trans h1, h2, h3⟩

theorem arange_sound {sf : Self} (hs : SelfOK P sf) {s : ASt} {nt : Nat} {ds : List ADef} {g : FuncId} {pre caps : List AV} {l : Pos} {h : Heap} {x : AEx} {s' : ASt} (hv : arange sf s ds g pre caps l h = some (.code x s'))
    {F : Fence} (hF : F = FW F.round) {ρ : Ren} {a' : Act} {w : World} {i : BI} (hl : ρ l = some i) (ht : TmpR ρ nt s.t a'.tmps) (hd : DR ρ ds a'.defers) (hh : HR ρ h w) {pc cc : Array Value} (hp : VRs ρ pre pc.toList) (hc : VRs ρ caps cc.toList) :
    CallsIn F 0 P g (pc ++ #[.func (.yield i.blk) #[] #[]] ++ cc) w (rangePost F 0 P i.blk (CodePost ρ w nt x s') a') ∧ ∀ w', (callFunc g (pc ++ #[.func (.yield i.blk) #[] #[]] ++ cc)).run P w' = .ok (.enter g (pc ++ #[.func (.yield i.blk) #[] #[]] ++ cc)) w' := by
  unfold arange at hv
  split at hv
  · rename_i u h3 hcall
    obtain ⟨hC, hcf⟩ := hs.call _ _ _ _ _ _ hcall ρ w (pc ++ #[.func (.yield i.blk) #[] #[]] ++ cc) (by rw [Array.append_assoc, Array.toList_append, Array.toList_append]; exact hp.append ⟨_, _, rfl, ⟨i, hl, rfl⟩, hc⟩) hh
    refine ⟨?_, hcf⟩
    rw [hF]
    refine CallsIn.mono (F := FW F.round) (show CallsIn (FW F.round) 0 P g _ w _ from hC) ?_
    rintro e w3 ⟨ρ3, ⟨c, hcv, rfl⟩, hr3, hx3⟩
    have hl3 := hx3.le _ _ hl
    have fin : ∀ (st : LoopState) (j : Option Jump) (t : T AV) (nt' : Nat) (ps : Array Tmp) (assign body : Code) (d : Pos), T.get l h3.m = some (.loop st j t nt' ps assign body d) → st ≠ .busy →
        (match j with
          | none => some (.code .norm ⟨s.t, ds, ⟨h3.next, T.set (some (.loop .exhausted j t nt' ps assign body d)) l h3.m⟩⟩)
          | some .ret => some (.code .ret ⟨s.t, ds, ⟨h3.next, T.set (some (.loop .exhausted j t nt' ps assign body d)) l h3.m⟩⟩)
          | some (.exit id) => some (.code (.exit id) ⟨s.t, ds, ⟨h3.next, T.set (some (.loop .exhausted j t nt' ps assign body d)) l h3.m⟩⟩) : Option Out) = some (.code x s') →
        rangePost (FW F.round) 0 P i.blk (CodePost ρ w nt x s') a' (.returned c) w3 := by
      intro st j t nt' ps assign body d hg hst hj
      obtain ⟨L, hL, m1, m2, m3, m4, m5, m6, mset⟩ := loop_at (P := P) hr3 hl3 hg
      obtain ⟨w4, hset, hr4, hx4⟩ := mset .exhausted j
      have hend : (Instr.endLoop i.blk).run P w3 = .ok (j.map Jump.code) w4 := by
        have hnb : (L.state == LoopState.busy) = false := by rw [m1]; cases st <;> first | rfl | exact absurd rfl hst
        rw [← m2] at hset
        simp only [Instr.endLoop, Sem.run_bind, hL, Result.andThen_ok, hnb, Bool.false_eq_true, if_false]
        rw [hset]; simp [m2]
      have hx := hx3.trans hx4
      have hsr : SR ρ3 nt ⟨s.t, ds, ⟨h3.next, T.set (some (.loop .exhausted j t nt' ps assign body d)) l h3.m⟩⟩ a' w4 := ⟨ht.mono hx3.le, hd.mono hx3.le, hr4⟩
      refine ⟨j.map Jump.code, w4, hend, ?_⟩
      cases j with
      | none =>
        simp only [Option.some.injEq, Out.code.injEq] at hj
        obtain ⟨rfl, rfl⟩ := hj
        exact ⟨ρ3, hx, hsr, rfl⟩
      | some j =>
        cases j with
        | ret =>
          simp only [Option.some.injEq, Out.code.injEq] at hj
          obtain ⟨rfl, rfl⟩ := hj
          exact wpIn_ret ⟨ρ3, hx, hsr, rfl⟩
        | exit id =>
          simp only [Option.some.injEq, Out.code.injEq] at hj
          obtain ⟨rfl, rfl⟩ := hj
          exact wpIn_exit ⟨ρ3, hx, hsr, rfl⟩
    split at hv
    · cases hv
    · rename_i st j t nt' ps assign body d hnb hg
      rw [T.setK_eq] at hv
      exact fin st j t nt' ps assign body d hg (fun e => hnb e) hv
    · cases hv
  · cases hv

theorem acode_sound {dr : Draws} (hdr : DrawsOK P dr) {sf : Self} (hs : SelfOK P sf) {rd : Option Pos} {nt : Nat} {c : Code} {s s' : ASt} {x : AEx} (hnl : ∀ b, c ≠ .loop b) (hv : acode P dr sf rd nt c s = some (.code x s')) : CodeOK P rd nt c s x s' := by
  intro ρ a w r hrd hsr
  unfold acode at hv
  split at hv
  · simp only [Option.some.injEq, Out.code.injEq] at hv
    obtain ⟨rfl, rfl⟩ := hv
    exact wpIn_skip ⟨ρ, Ext.refl _ _, hsr, rfl⟩
  · simp only [Option.some.injEq, Out.code.injEq] at hv
    obtain ⟨rfl, rfl⟩ := hv
    exact wpIn_label ⟨ρ, Ext.refl _ _, hsr, rfl⟩
  · split at hv
    · rename_i s1 hops
      simp only [Option.some.injEq, Out.code.injEq] at hv
      obtain ⟨rfl, rfl⟩ := hv
      exact wpIn_region_list (aops_sound hs hops ρ a w r hrd hsr)
    · cases hv
  · split at hv
    · rename_i s1 hops
      simp only [Option.some.injEq, Out.code.injEq] at hv
      obtain ⟨rfl, rfl⟩ := hv
      exact hdr sf hs _ _ _ _ _ _ _ hops ρ a w r hrd hsr
    · cases hv
  · rename_i ca cb
    split at hv
    · rename_i s1 h1
      refine wpIn_seq (wpIn_mono (hs.code _ _ _ _ _ _ h1 ρ a w r hrd hsr) ?_)
      rintro e a1 w1 ⟨ρ1, hx1, hsr1, he⟩
      simp only [ExR] at he; subst he
      exact wpIn_mono (hs.code _ _ _ _ _ _ hv ρ1 a1 w1 r (hrd.mono hx1.le) hsr1) (fun e a w h => CodePost.trans hx1 h)
    · rename_i y s1 hne h1
      simp only [Option.some.injEq, Out.code.injEq] at hv
      obtain ⟨rfl, rfl⟩ := hv
      refine wpIn_seq (wpIn_mono (hs.code _ _ _ _ _ _ h1 ρ a w r hrd hsr) ?_)
      rintro e a1 w1 ⟨ρ1, hx1, hsr1, he⟩
      cases y with
      | norm => exact absurd rfl hne
      | exit id => simp only [ExR] at he; subst he; exact ⟨ρ1, hx1, hsr1, rfl⟩
      | ret => simp only [ExR] at he; subst he; exact ⟨ρ1, hx1, hsr1, rfl⟩
      | panic v => obtain ⟨c, hcv, rfl⟩ := he; exact ⟨ρ1, hx1, hsr1, c, hcv, rfl⟩
    · cases hv
  · rename_i co ca cb
    split at hv
    · rename_i hb
      have hb := aopd_sound hsr.t hb
      simp only [VR] at hb
      split at hv
      · rename_i y s1 h1
        simp only [Option.some.injEq, Out.code.injEq] at hv
        obtain ⟨rfl, rfl⟩ := hv
        exact wpIn_cond_true hb (hs.code _ _ _ _ _ _ h1 ρ a w r hrd hsr)
      · cases hv
    · rename_i hb
      have hb := aopd_sound hsr.t hb
      simp only [VR] at hb
      split at hv
      · rename_i y s1 h1
        simp only [Option.some.injEq, Out.code.injEq] at hv
        obtain ⟨rfl, rfl⟩ := hv
        exact wpIn_cond_false hb (hs.code _ _ _ _ _ _ h1 ρ a w r hrd hsr)
      · cases hv
    · cases hv
  · rename_i id b
    split at hv
    · rename_i j s1 h1
      refine wpIn_block (wpIn_mono (hs.code _ _ _ _ _ _ h1 ρ a w r hrd hsr) ?_)
      rintro e a1 w1 ⟨ρ1, hx1, hsr1, he⟩
      simp only [ExR] at he; subst he
      simp only [Exit.inBlock]
      split at hv
      · rename_i hj
        have hj := Nat.eq_of_beq_eq_true hj
        simp only [Option.some.injEq, Out.code.injEq] at hv
        obtain ⟨rfl, rfl⟩ := hv
        rw [if_pos hj]; exact ⟨ρ1, hx1, hsr1, rfl⟩
      · rename_i hj
        have hj : j ≠ id := fun e => by rw [e] at hj; simp at hj
        simp only [Option.some.injEq, Out.code.injEq] at hv
        obtain ⟨rfl, rfl⟩ := hv
        rw [if_neg hj]; exact ⟨ρ1, hx1, hsr1, rfl⟩
    · rename_i y s1 hne h1
      simp only [Option.some.injEq, Out.code.injEq] at hv
      obtain ⟨rfl, rfl⟩ := hv
      refine wpIn_block (wpIn_mono (hs.code _ _ _ _ _ _ h1 ρ a w r hrd hsr) ?_)
      rintro e a1 w1 ⟨ρ1, hx1, hsr1, he⟩
      cases y with
      | norm => simp only [ExR] at he; subst he; exact ⟨ρ1, hx1, hsr1, rfl⟩
      | exit j => exact absurd rfl (hne j)
      | ret => simp only [ExR] at he; subst he; exact ⟨ρ1, hx1, hsr1, rfl⟩
      | panic v => obtain ⟨c, hcv, rfl⟩ := he; exact ⟨ρ1, hx1, hsr1, c, hcv, rfl⟩
    · cases hv
  · exact absurd rfl (hnl _)
  · rename_i b
    split at hv
    · rename_i y s1 h1
      simp only [Option.some.injEq, Out.code.injEq] at hv
      obtain ⟨rfl, rfl⟩ := hv
      refine wpIn_scope (wpIn_mono (hs.code _ _ _ _ _ _ h1 ρ a w r hrd hsr) ?_)
      rintro e a1 w1 ⟨ρ1, hx1, hsr1, he⟩
      refine ⟨?_, ρ1, hx1, hsr1, he⟩
      cases y with
      | panic v => obtain ⟨c, hcv, rfl⟩ := he; exact fun l h => by cases h
      | norm => simp only [ExR] at he; subst he; exact fun l h => by cases h
      | exit id => simp only [ExR] at he; subst he; exact fun l h => by cases h
      | ret => simp only [ExR] at he; subst he; exact fun l h => by cases h
    · cases hv
  · simp only [Option.some.injEq, Out.code.injEq] at hv
    obtain ⟨rfl, rfl⟩ := hv
    exact wpIn_exit ⟨ρ, Ext.refl _ _, hsr, rfl⟩
  · simp only [Option.some.injEq, Out.code.injEq] at hv
    obtain ⟨rfl, rfl⟩ := hv
    exact wpIn_ret ⟨ρ, Ext.refl _ _, hsr, rfl⟩
  · rename_i f ps assign body
    split at hv
    · rename_i g pre caps hg0
      have hg1 : ∃ pc cc, a.eval f = .func (.func g) pc cc ∧ VRs ρ pre pc.toList ∧ VRs ρ caps cc.toList := by
        split at hg0
        · rename_i fv hfv
          have hfr := aopd_sound hsr.t hfv
          unfold afun at hg0
          split at hg0
          · simp only [Option.some.injEq, Prod.mk.injEq] at hg0
            obtain ⟨rfl, rfl, rfl⟩ := hg0
            obtain ⟨cc, he, hcc⟩ := hfr
            exact ⟨#[], cc, he, rfl, hcc⟩
          · simp only [Option.some.injEq, Prod.mk.injEq] at hg0
            obtain ⟨rfl, rfl, rfl⟩ := hg0
            obtain ⟨bb, he, hbb⟩ := hfr
            exact ⟨bb, #[], he, hbb, rfl⟩
          · cases hg0
        · cases hg0
      obtain ⟨pc, cc, he, hpc, hcc⟩ := hg1
      refine wpIn_rangeFunc (fun fn _ => ?_)
      split at hv
      · have hr : r = none := hrd
        subst hr
        simp only [Heap.pushK_eq] at hv
        let i1 : BI := { blk := w.heap.size }
        obtain ⟨h1, x1⟩ := hsr.h.push .dfr i1 rfl (.deferred (some [])) rfl
        let L : Loop := { state := .ready, pending := none, fn, tmps := a.tmps, params := ps, assign, body, defers := w.heap.size }
        let i2 : BI := { blk := w.heap.size + 1 }
        have hn1 := h1.fresh_none
        have hd1 : ((ρ.upd s.h.next i1).upd (s.h.push .dfr).next i2) s.h.next = some i1 := Ren.le_upd i2 hn1 _ _ (Ren.upd_same _ _ _)
        obtain ⟨h2, x2⟩ := h1.push (.loop .ready none s.t nt ps assign body s.h.next) i2 (by simp [i2]) (.loop L)
          ⟨L, i1, rfl, rfl, rfl, (hsr.t.mono x1.le).mono (Ren.le_upd i2 hn1), rfl, rfl, rfl, hd1, rfl⟩
        have hle := Ren.le_trans x1.le x2.le
        obtain ⟨hC, hcf⟩ := arange_sound hs hv (F := FW none) rfl (a' := { a with defers := [{ target := .collected w.heap.size, args := #[] }] ++ a.defers }) (Ren.upd_same _ _ _) (hsr.t.mono hle)
          ⟨i1, a.defers, rfl, hd1, hsr.ds.mono hle⟩ h2 (hpc.mono hle) (hcc.mono hle)
        refine ⟨w.heap.size + 1, [{ target := .collected w.heap.size, args := #[] }], (w.alloc (.deferred (some []))).alloc (.loop L), { target := .fn (.func g) cc, args := pc ++ #[.func (.yield (w.heap.size + 1)) #[] #[]] }, (w.alloc (.deferred (some []))).alloc (.loop L), g, _, _, ?_, ?_, fun _ _ => trivial, ?_, by simp [FW, Fence.wide], CallsIn.mono hC ?_⟩
        · simp only [Instr.enterLoop, FW, Sem.run_bind, run_newObj, Result.andThen_ok, Sem.run_pure, World.alloc_eq, World.size_alloc, L]
        · have hcst : ∀ v, a.eval (.const v) = v := fun _ => rfl
          simp [resolve, rangeCall, he, Deferred.ofValue, hcst]
        · simp only [invoke]; exact hcf _
        · intro e w' hp
          cases e with
          | returned c =>
            obtain ⟨j, w4, hj, hq⟩ := hp
            refine ⟨j, w4, hj, ?_⟩
            cases j with
            | none => exact CodePost.trans (x1.trans x2) hq
            | some c => exact wpIn_mono hq (fun _ _ _ h => CodePost.trans (x1.trans x2) h)
          | panicked ch => exact CodePost.trans (x1.trans x2) hp
          | outgrown => obtain ⟨a0, w0, h0⟩ := hp; exact ⟨a0, w0, CodePost.trans (x1.trans x2) h0⟩
      · rename_i l0
        obtain ⟨i0, hl0, hr0⟩ := hrd
        subst hr0
        split at hv
        · rename_i st0 j0 t0 nt0 ps0 as0 bo0 d0 hg0
          simp only [Heap.pushK_eq] at hv
          obtain ⟨L0, b0, g1, g2, g3, g5, g6, g7, g8, g9, g10⟩ := (hsr.h.obj l0 i0 hl0).2 _ hg0
          have hL0 : (Instr.getLoop i0.blk).run P w = .ok L0 w := by simp [Instr.getLoop, run_getObj w i0.blk _ g1 (by simp)]
          let L : Loop := { state := .ready, pending := none, fn, tmps := a.tmps, params := ps, assign, body, defers := L0.defers }
          let i2 : BI := { blk := w.heap.size }
          have hn1 := hsr.h.fresh_none
          have hle := Ren.le_upd i2 hn1
          obtain ⟨h2, x2⟩ := hsr.h.push (.loop .ready none s.t nt ps assign body d0) i2 rfl (.loop L)
            ⟨L, b0, rfl, rfl, rfl, hsr.t.mono hle, rfl, rfl, rfl, hle _ _ g9, g10⟩
          obtain ⟨hC, hcf⟩ := arange_sound hs hv (F := FW (some i0.blk)) rfl (a' := a) (Ren.upd_same _ _ _) (hsr.t.mono hle) (hsr.ds.mono hle) h2 (hpc.mono hle) (hcc.mono hle)
          refine ⟨w.heap.size, [], w.alloc (.loop L), { target := .fn (.func g) cc, args := pc ++ #[.func (.yield w.heap.size) #[] #[]] }, w.alloc (.loop L), g, _, _, ?_, ?_, fun _ _ => trivial, ?_, by simp [FW, Fence.wide], CallsIn.mono hC ?_⟩
          · simp only [Instr.enterLoop, FW, Sem.run_bind, hL0, run_newObj, Result.andThen_ok, Sem.run_pure, World.alloc_eq, L]
          · have hcst : ∀ v, a.eval (.const v) = v := fun _ => rfl
            simp [resolve, rangeCall, he, Deferred.ofValue, hcst]
          · simp only [invoke]; exact hcf _
          · intro e w' hp
            cases e with
            | returned c =>
              obtain ⟨j, w4, hj, hq⟩ := hp
              refine ⟨j, w4, hj, ?_⟩
              cases j with
              | none => exact CodePost.trans x2 hq
              | some c => exact wpIn_mono hq (fun _ _ _ h => CodePost.trans x2 h)
            | panicked ch => exact CodePost.trans x2 hp
            | outgrown => obtain ⟨a0, w0, h0⟩ := hp; exact ⟨a0, w0, CodePost.trans x2 h0⟩
        · cases hv
    · cases hv
  · cases hv

end Go.Rh

/- The evaluator is right: functions; the whole. -/
namespace Go.Rh
variable {P : Program}

def resF (tmps : Array Value) : ResultVar → Sem Value
  | .tmp t => pure (tmps.getD t undef)
  | .cell a t => do loadVar t (← asAddr (tmps.getD a undef))
theorem results_eq (fn : Func) (tmps : Array Value) : results fn tmps = (do let vs ← fn.results.mapM (resF tmps); pure (if h : vs.size = 1 then vs[0] else .tuple vs)) := by
  unfold results
  congr 1

theorem aresult_sound {ρ : Ren} {nt : Nat} {t : T AV} {tmps : Array Value} (ht : TmpR ρ nt t tmps) {h : Heap} {w : World} (hh : HR ρ h w) : ∀ {rs : List ResultVar} {vs : List AV}, aresults P t h rs = some vs →
    ∃ cs : List Value, VRs ρ vs cs ∧ (rs.mapM (resF tmps)).run P w = .ok cs w
  | [], vs, hv => by simp only [aresults, Option.some.injEq] at hv; subst hv; exact ⟨[], rfl, by simp⟩
  | r :: rs, vs, hv => by
    simp only [aresults] at hv
    split at hv
    · rename_i v us h1 h2
      simp only [Option.some.injEq] at hv; subst hv
      obtain ⟨cs, hcs, hr⟩ := aresult_sound ht hh h2
      have one : ∃ c, VR ρ v c ∧ (resF tmps r).run P w = .ok c w := by
        cases r with
        | tmp i => exact ⟨_, (ht.2 i v h1).2, rfl⟩
        | cell a ty =>
          simp only [aresult] at h1
          split at h1
          · rename_i l off hp
            obtain ⟨i, hl, he⟩ := (ht.2 a _ hp).2
            obtain ⟨c, hc, hld⟩ := aloadT_sound hh hl h1
            exact ⟨c, hc, by simp only [resF, he, asAddr, Sem.run_bind, Sem.run_pure, Result.andThen_ok, hld]⟩
          · cases h1
      obtain ⟨c, hc, hr1⟩ := one
      refine ⟨c :: cs, ⟨c, cs, rfl, hc, hcs⟩, ?_⟩
      rw [List.mapM_cons, Sem.run_bind, hr1, Result.andThen_ok, Sem.run_bind, hr]; rfl
    · cases hv

theorem aresults_sound {ρ : Ren} {nt : Nat} {t : T AV} {tmps : Array Value} (ht : TmpR ρ nt t tmps) {h : Heap} {w : World} (hh : HR ρ h w) {fn : Func} {vs : List AV} (hv : aresults P t h fn.results.toList = some vs) :
    ∃ c, VR ρ (oneOr vs) c ∧ (results fn tmps).run P w = .ok c w := by
  obtain ⟨cs, hcs, hr⟩ := aresult_sound ht hh hv
  rw [results_eq, Array.mapM_eq_mapM_toList]
  simp only [Sem.run_bind, Sem.run_map]
  rw [hr]
  simp only [Result.andThen_ok, Sem.run_pure]
  refine ⟨_, ?_, rfl⟩
  cases vs with
  | nil =>
    simp only [VRs] at hcs; subst hcs
    rw [dif_neg (by simp)]
    exact ⟨#[], rfl, rfl⟩
  | cons v vs =>
    cases vs with
    | nil =>
      obtain ⟨c, cs', rfl, hc, hn⟩ := hcs
      simp only [VRs] at hn; subst hn
      rw [dif_pos (by simp)]
      exact hc
    | cons u us =>
      have hl := hcs.length
      rw [dif_neg (by simp [← hl])]
      exact ⟨_, rfl, by simpa using hcs⟩

theorem aleave_sound {sf : Self} (hs : SelfOK P sf) {fn : Func} {nt : Nat} {t : T AV} {tmps : Array Value} {v : AV} {h' : Heap} {ρ0 : Ren} {w0 : World} : ∀ {ds : List ADef} {h : Heap}, aleave P sf fn t ds h = some (v, h') →
    ∀ {ρ : Ren} {w : World} {cds : List Deferred}, TmpR ρ nt t tmps → DR ρ ds cds → HR ρ h w → Ext ρ0 w0 ρ w → LeavesInM Fence.wide 0 P fn tmps (CallPost ρ0 w0 false v h') cds .returning w
  | [], h, hv, ρ, w, cds, ht, hd, hh, hx => by
    simp only [DR] at hd; subst hd
    simp only [aleave] at hv
    split at hv
    · rename_i vs hr
      simp only [Option.some.injEq, Prod.mk.injEq] at hv
      obtain ⟨rfl, rfl⟩ := hv
      obtain ⟨c, hc, hrun⟩ := aresults_sound ht hh hr
      exact ⟨c, hrun, ρ, ⟨c, hc, rfl⟩, hh, hx⟩
    · cases hv
  | .mark l :: ds, h, hv, ρ, w, cds, ht, hd, hh, hx => by
    obtain ⟨i, cds', rfl, hl, hd'⟩ := hd
    simp only [aleave] at hv
    split at hv
    · rename_i hg
      rw [T.setK_eq] at hv
      obtain ⟨hlt, hob⟩ := hh.obj l i hl
      have ho := hob _ hg
      simp only [OO] at ho
      refine ⟨by simp, .inl ⟨i.blk, { w with heap := w.heap.setIfInBounds i.blk (.deferred none) }, rfl, ?_, ?_⟩⟩
      · simp [Instr.takeDeferred, run_getObj w i.blk _ ho (by simp), run_setObj w i.blk _ (.deferred none) ho (by simp)]
      · refine aleave_sound hs hv ht hd' (hh.drop hl hg (by simp) (fun b hb => Array.getElem?_setIfInBounds_ne (Ne.symm hb))) (hx.trans (Ext.upd hl (by simp) (fun b hb => Array.getElem?_setIfInBounds_ne (Ne.symm hb)) rfl rfl rfl))
    · cases hv
  | .fn f caps args :: ds, h, hv, ρ, w, cds, ht, hd, hh, hx => by
    obtain ⟨cc, ca, cds', rfl, h1, h2, hd'⟩ := hd
    simp only [aleave] at hv
    split at hv
    · rename_i u h1' hcall
      obtain ⟨hC, hcf⟩ := hs.dcall _ _ _ _ _ _ hcall ρ w (ca ++ cc) (by rw [Array.toList_append]; exact h2.append h1) hh
      refine ⟨by simp, .inr ⟨by simp [Fence.wide], .func f, cc, f, ca ++ cc, rfl, ?_, fun _ _ => trivial, ?_⟩⟩
      · simp only [invoke]; exact hcf w
      · refine CallsDIn.mono (hC .returning) ?_
        rintro e u' w' ⟨rfl, ρ', ⟨c, hc, rfl⟩, hr, hx'⟩
        exact aleave_sound hs hv (ht.mono hx'.le) (hd'.mono hx'.le) hr (hx.trans hx')
    · split at hv
      · rename_i u h1' hcall
        obtain ⟨hC, hcf⟩ := hs.rcall _ _ _ _ _ _ _ hcall ρ w (ca ++ cc) (by rw [Array.toList_append]; exact h2.append h1) hh
        refine ⟨by simp, .inr ⟨by simp [Fence.wide], .func f, cc, f, ca ++ cc, rfl, ?_, fun _ _ => trivial, ?_⟩⟩
        · simp only [invoke]; exact hcf w
        · refine CallsDIn.mono (hC .returning .returning ⟨rfl, rfl⟩) ?_
          rintro e u' w' ⟨rfl, ρ', ⟨c, hc, rfl⟩, hr, hx'⟩
          exact aleave_sound hs hv (ht.mono hx'.le) (hd'.mono hx'.le) hr (hx.trans hx')
      · cases hv

theorem aleaveP_sound {sf : Self} (hs : SelfOK P sf) {fn : Func} {nt : Nat} {t : T AV} {tmps : Array Value} {pv v : AV} {b : Bool} {h' : Heap} {ρ0 : Ren} {w0 : World} : ∀ {ds : List ADef} {h : Heap}, aleaveP P sf fn t pv ds h = some (b, v, h') →
    ∀ {ρ : Ren} {w : World} {cds : List Deferred} {c : Value}, VR ρ pv c → TmpR ρ nt t tmps → DR ρ ds cds → HR ρ h w → Ext ρ0 w0 ρ w → LeavesInM Fence.wide 0 P fn tmps (CallPost ρ0 w0 b v h') cds (.panicking [{ v := c, recovered := false }]) w
  | [], h, hv, ρ, w, cds, c, hc, ht, hd, hh, hx => by
    simp only [DR] at hd; subst hd
    simp only [aleaveP, Option.some.injEq, Prod.mk.injEq] at hv
    obtain ⟨rfl, rfl, rfl⟩ := hv
    exact ⟨ρ, ⟨c, hc, rfl⟩, hh, hx⟩
  | .mark l :: ds, h, hv, ρ, w, cds, c, hc, ht, hd, hh, hx => by
    simp [aleaveP] at hv
  | .fn f caps args :: ds, h, hv, ρ, w, cds, c, hc, ht, hd, hh, hx => by
    obtain ⟨cc, ca, cds', rfl, h1, h2, hd'⟩ := hd
    simp only [aleaveP] at hv
    split at hv
    · rename_i u h1' hcall
      split at hv
      · rename_i v2 h2' hlv
        simp only [Option.some.injEq, Prod.mk.injEq] at hv
        obtain ⟨rfl, rfl, rfl⟩ := hv
        obtain ⟨hC, hcf⟩ := hs.rcall _ _ _ _ _ _ _ hcall ρ w (ca ++ cc) (by rw [Array.toList_append]; exact h2.append h1) hh
        refine ⟨by simp, .inr ⟨by simp [Fence.wide], .func f, cc, f, ca ++ cc, rfl, ?_, fun _ _ => trivial, ?_⟩⟩
        · simp only [invoke]; exact hcf w
        · refine CallsDIn.mono (hC (.panicking [{ v := c, recovered := false }]) (.panicking [{ v := c, recovered := true }]) ⟨c, hc, rfl, rfl⟩) ?_
          rintro e u' w' ⟨rfl, ρ', ⟨c, hc, rfl⟩, hr, hx'⟩
          exact aleave_sound hs hlv (ht.mono hx'.le) (hd'.mono hx'.le) hr (hx.trans hx')
      · cases hv
    · cases hv

theorem argsT_get : ∀ (vs : List AV) (i : Nat) (t : T AV) (j : Nat), T.get (Pos.ofNat j) (argsT i vs t) = if i ≤ j ∧ j < i + vs.length then vs[j - i]? else T.get (Pos.ofNat j) t
  | [], i, t, j => by simp only [argsT, List.length_nil]; rw [if_neg (by omega)]
  | v :: vs, i, t, j => by
    simp only [argsT, T.forceK_eq]
    rw [argsT_get vs (i + 1)]
    by_cases h1 : i + 1 ≤ j ∧ j < i + 1 + vs.length
    · rw [if_pos h1, if_pos (by simp; omega)]
      rw [show j - i = (j - (i + 1)) + 1 from by omega]; simp
    · rw [if_neg h1]
      by_cases h2 : j = i
      · subst h2
        rw [T.get_set_same, if_pos (by simp)]; simp
      · rw [T.get_set_other _ _ _ _ (fun e => h2 (Pos.ofNat_inj e).symm), if_neg (by simp; omega)]

theorem argsT_sound {ρ : Ren} {args : List AV} {cargs : Array Value} {n : Nat} (hv : VRs ρ args cargs.toList) (hn : args.length ≤ n) : TmpR ρ n (argsT 0 args .leaf) (cargs ++ Array.replicate (n - cargs.size) undef) := by
  have hl : args.length = cargs.size := by rw [hv.length]; rfl
  refine ⟨by simp; omega, fun j v hj => ?_⟩
  rw [argsT_get] at hj
  split at hj
  · rename_i h1
    rw [Nat.sub_zero] at hj
    obtain ⟨c, hc, hr⟩ := hv.get hj
    refine ⟨by omega, ?_⟩
    have hc' : cargs[j]? = some c := by simpa using hc
    have hlt : j < cargs.size := (Array.getElem?_eq_some_iff.1 hc').1
    have : (cargs ++ Array.replicate (n - cargs.size) undef).getD j undef = c := by
      simp only [Array.getD_eq_getD_getElem?]
      rw [Array.getElem?_append_left hlt, hc']; rfl
    rw [this]; exact hr
  · simp at hj

theorem afn_sound {f : FuncId} {fn : Func} {c : Code} (h : afn P f = some (fn, c)) : P.funcs[f]? = some fn ∧ fn.body = some c ∧ ∀ (cargs : Array Value) (w : World), (callFunc f cargs).run P w = .ok (.enter f cargs) w := by
  unfold afn at h
  split at h
  · rename_i fn' hf
    split at h
    · rename_i c' hb hn
      have hn := of_decide_eq_false hn
      simp only [Option.some.injEq, Prod.mk.injEq] at h
      obtain ⟨rfl, rfl⟩ := h
      refine ⟨hf, hb, fun cargs w => ?_⟩
      simp [callFunc, hf, hb, hn]
    · cases h
  · cases h

theorem apures_sound {nt : Nat} {ρ : Ren} {ops : Array Oper} {Q : Exit → Act → List Frame → World → Prop} {cs : List Frame} {w : World} : ∀ (l : List Oper) (i : Nat), ops.toList.drop i = l → ∀ {t t' : T AV} {a : Act}, apures P nt l t = some t' →
    TmpR ρ nt t a.tmps → (∀ a', TmpR ρ nt t' a'.tmps → a'.defers = a.defers → Q .normal a' cs w) → wpOpsSIn Fence.wide 0 P ops Q (List.range' i l.length) a cs w
  | [], i, hl, t, t', a, h, ht, hq => by
    simp only [apures, Option.some.injEq] at h; subst h
    exact hq a ht rfl
  | o :: r, i, hl, t, t', a, h, ht, hq => by
    have hi : ops[i]? = some o := by
      have : (ops.toList.drop i)[0]? = some o := by rw [hl]; rfl
      simpa using this
    have hr : ops.toList.drop (i + 1) = r := by rw [← List.tail_drop, hl]; rfl
    simp only [apures] at h
    split at h
    · cases h
    · rename_i hg
      split at h
      · rename_i v hp
        split at h
        · rename_i t1 h1
          obtain ⟨c, hc, hrun⟩ := apure_sound ht hp
          simp only [List.length_cons, List.range'_succ, wpOpsSIn, hi]
          refine ⟨fun _ _ => trivial, ?_⟩
          have hw : Region.wanted o (yielded ops a.tmps) = true := by simp [Region.wanted, hg]
          rw [if_pos hw, hrun w]
          exact apures_sound r (i + 1) hr h (aput_sound ht hc h1) (fun a' h1 h2 => hq a' h1 (by rw [h2, put_defers]))
        · cases h
      · cases h

theorem isRecover_sound {o : Oper} (h : isRecover o = true) : o.guard = none ∧ ∀ (e : Operand → Value) (w : World), (execOp e o).run P w = .ok .recover w := by
  unfold isRecover at h
  split at h
  · rename_i c hg ho
    split at h
    · rename_i hc ha
      refine ⟨hg, fun e w => ?_⟩
      have ha' : c.args = #[] := by apply Array.toList_inj.1; simp [ha]
      simp [execOp, ho, resolve, hc, invoke, ha', builtin]
    · cases h
  · cases h

theorem ev_sound {σ : Specs} {dr : Draws} (hσ : SpecsOK P σ) (hdr : DrawsOK P dr) : ∀ n, SelfOK P (ev P σ dr n) := by
  intro n
  induction n using Nat.strongRecOn with
  | _ n ih =>
    cases n with
    | zero => exact ⟨fun _ _ _ _ _ _ h => by simp [ev] at h, fun _ _ _ _ _ _ h => by simp [ev] at h, fun _ _ _ _ _ _ h => by simp [ev] at h, fun _ _ _ _ _ _ _ h => by simp [ev] at h⟩
    | succ n =>
      have hs := ih n (Nat.lt_succ_self n)
      have dret : ∀ (f : FuncId) (fn : Func) (c : Code) (t : T AV) (h : Heap) (b : Bool) (v : AV) (h' : Heap), adret P fn (ev P σ dr n (.code none fn.ntmps c ⟨t, [], h⟩)) = some (.call b v h') →
          ∀ (ρ : Ren) (a : Act) (w : World), TmpR ρ fn.ntmps t a.tmps → a.defers = [] → HR ρ h w →
            c.wpIn Fence.wide 0 P (fun e a' w' => (e = .normal ∨ e = .ret) ∧ a'.defers = [] ∧ ∃ c, (results fn a'.tmps).run P w' = .ok c w' ∧ CallPost ρ w false v h' (.returned c) w') a w := by
        intro f fn c t h b v h' hv ρ a w ht hd hh
        unfold adret at hv
        split at hv
        · rename_i s h1
          split at hv
          · rename_i vs hds hres
            simp only [Option.some.injEq, Out.call.injEq] at hv
            obtain ⟨rfl, rfl, rfl⟩ := hv
            refine wpIn_mono (hs.code _ _ _ _ _ _ h1 ρ a w none rfl ⟨ht, hd, hh⟩) ?_
            rintro e a1 w1 ⟨ρ1, hx1, hsr1, he⟩
            simp only [ExR] at he; subst he
            obtain ⟨c, hcv, hrun⟩ := aresults_sound hsr1.t hsr1.h hres
            have hd := hsr1.ds
            rw [hds] at hd
            exact ⟨.inl rfl, hd, c, hrun, ρ1, ⟨c, hcv, rfl⟩, hsr1.h, hx1⟩
          · cases hv
        · rename_i s h1
          split at hv
          · rename_i vs hds hres
            simp only [Option.some.injEq, Out.call.injEq] at hv
            obtain ⟨rfl, rfl, rfl⟩ := hv
            refine wpIn_mono (hs.code _ _ _ _ _ _ h1 ρ a w none rfl ⟨ht, hd, hh⟩) ?_
            rintro e a1 w1 ⟨ρ1, hx1, hsr1, he⟩
            simp only [ExR] at he; subst he
            obtain ⟨c, hcv, hrun⟩ := aresults_sound hsr1.t hsr1.h hres
            have hd := hsr1.ds
            rw [hds] at hd
            exact ⟨.inr rfl, hd, c, hrun, ρ1, ⟨c, hcv, rfl⟩, hsr1.h, hx1⟩
          · cases hv
        · cases hv
      refine ⟨fun rd nt c s x s' hv => ?_, fun f args h b v h' hv => ?_, fun f args h b v h' hv => ?_, fun f args h pv b v h' hv => ?_⟩
      · by_cases hl : ∃ b, c = .loop b
        · obtain ⟨b, rfl⟩ := hl
          intro ρ a w r hrd hsr
          refine wpIn_loop_fuel (fun m a1 w1 => m ≤ n + 1 ∧ ∃ ρ1 s1, Ext ρ w ρ1 w1 ∧ SR ρ1 nt s1 a1 w1 ∧ ev P σ dr m (.code rd nt (.loop b) s1) = some (.code x s')) (n + 1) ⟨Nat.le_refl _, ρ, s, Ext.refl _ _, hsr, hv⟩ ?_
          rintro m a1 w1 ⟨hm, ρ1, s1, hx1, hsr1, hv1⟩
          cases m with
          | zero => simp [ev] at hv1
          | succ m =>
            have hs1 := ih m (by omega)
            simp only [ev, acmd, acode] at hv1
            split at hv1
            · rename_i s2 h2
              split at hv1
              · rename_i y s3 h3
                simp only [Option.some.injEq, Out.code.injEq] at hv1
                obtain ⟨rfl, rfl⟩ := hv1
                refine wpIn_mono (hs1.code _ _ _ _ _ _ h2 ρ1 a1 w1 r (hrd.mono hx1.le) hsr1) ?_
                rintro e a2 w2 ⟨ρ2, hx2, hsr2, he⟩
                simp only [ExR] at he; subst he
                exact ⟨m, by omega, by omega, ρ2, s2, hx1.trans hx2, hsr2, h3⟩
              · cases hv1
            · rename_i y s2 hne h2
              simp only [Option.some.injEq, Out.code.injEq] at hv1
              obtain ⟨rfl, rfl⟩ := hv1
              refine wpIn_mono (hs1.code _ _ _ _ _ _ h2 ρ1 a1 w1 r (hrd.mono hx1.le) hsr1) ?_
              rintro e a2 w2 ⟨ρ2, hx2, hsr2, he⟩
              cases y with
              | norm => exact absurd rfl hne
              | exit id => simp only [ExR] at he; subst he; exact ⟨ρ2, hx1.trans hx2, hsr2, rfl⟩
              | ret => simp only [ExR] at he; subst he; exact ⟨ρ2, hx1.trans hx2, hsr2, rfl⟩
              | panic v => obtain ⟨c, hcv, rfl⟩ := he; exact ⟨ρ2, hx1.trans hx2, hsr2, c, hcv, rfl⟩
            · cases hv1
        · exact acode_sound hdr hs (fun b e => hl ⟨b, e⟩) hv
      · simp only [ev, acmd] at hv
        split at hv
        · rename_i b1 v1 h1 hsp
          simp only [Option.some.injEq, Out.call.injEq] at hv
          obtain ⟨rfl, rfl, rfl⟩ := hv
          exact hσ _ _ _ _ _ _ hsp
        · split at hv
          · rename_i fn c hf
            obtain ⟨hf1, hf2, hf3⟩ := afn_sound hf
            split at hv
            · rename_i hle
              have hle := Nat.le_of_ble_eq_true hle
              intro ρ w cargs hc hh
              refine ⟨callsIn_of_wp_marks hf1 hf2 trivial ?_, hf3 cargs⟩
              unfold aret at hv
              split at hv
              · rename_i s h1
                split at hv
                · rename_i v1 h2 hlv
                  simp only [Option.some.injEq, Out.call.injEq] at hv
                  obtain ⟨rfl, rfl, rfl⟩ := hv
                  refine wpIn_mono (hs.code _ _ _ _ _ _ h1 ρ { tmps := _, defers := [] } w none rfl ⟨argsT_sound hc hle, rfl, hh⟩) ?_
                  rintro e a1 w1 ⟨ρ1, hx1, hsr1, he⟩
                  simp only [ExR] at he; subst he
                  exact aleave_sound hs hlv hsr1.t hsr1.ds hsr1.h hx1
                · cases hv
              · rename_i s h1
                split at hv
                · rename_i v1 h2 hlv
                  simp only [Option.some.injEq, Out.call.injEq] at hv
                  obtain ⟨rfl, rfl, rfl⟩ := hv
                  refine wpIn_mono (hs.code _ _ _ _ _ _ h1 ρ { tmps := _, defers := [] } w none rfl ⟨argsT_sound hc hle, rfl, hh⟩) ?_
                  rintro e a1 w1 ⟨ρ1, hx1, hsr1, he⟩
                  simp only [ExR] at he; subst he
                  exact aleave_sound hs hlv hsr1.t hsr1.ds hsr1.h hx1
                · cases hv
              · rename_i pv s h1
                split at hv
                · rename_i b1 v1 h2 hlv
                  simp only [Option.some.injEq, Out.call.injEq] at hv
                  obtain ⟨rfl, rfl, rfl⟩ := hv
                  refine wpIn_mono (hs.code _ _ _ _ _ _ h1 ρ { tmps := _, defers := [] } w none rfl ⟨argsT_sound hc hle, rfl, hh⟩) ?_
                  rintro e a1 w1 ⟨ρ1, hx1, hsr1, c, hcv, rfl⟩
                  exact aleaveP_sound hs hlv hcv hsr1.t hsr1.ds hsr1.h hx1
                · cases hv
              · cases hv
            · cases hv
          · cases hv
      · simp only [ev, acmd] at hv
        split at hv
        · rename_i fn c hf
          obtain ⟨hf1, hf2, hf3⟩ := afn_sound hf
          split at hv
          · rename_i hle
            have hle := Nat.le_of_ble_eq_true hle
            intro ρ w cargs hc hh
            refine ⟨fun u => callsDIn_of_wp hf1 hf2 trivial ?_, hf3 cargs⟩
            refine wpIn_mono (dret f fn c _ _ _ _ _ hv ρ { tmps := _, defers := [] } w (argsT_sound hc hle) rfl hh) ?_
            rintro e a1 w1 ⟨he, hd, c, hrun, hp⟩
            rcases he with rfl | rfl
            · exact ⟨hd, c, hrun, hp⟩
            · exact ⟨hd, c, hrun, hp⟩
          · cases hv
        · cases hv
      · simp only [ev, acmd] at hv
        split at hv
        · rename_i fn id ops rest hf
          obtain ⟨hf1, hf2, hf3⟩ := afn_sound hf
          split at hv
          · rename_i o os hle hops
            have hle := Nat.le_of_ble_eq_true hle
            split at hv
            · rename_i hrec
              obtain ⟨hg, hrun⟩ := isRecover_sound (P := P) hrec
              split at hv
              · rename_i t1 ht1
                split at hv
                · rename_i t2 ht2
                  intro ρ w cargs hc hh
                  refine ⟨fun u u1 hm => callsDIn_of_wpSIn hf1 hf2 trivial (fun c₀ cs hu => ?_), hf3 cargs⟩
                  have hsz : ops.size = os.length + 1 := by rw [← Array.length_toList, hops]; rfl
                  have hi : ops[0]? = some o := by
                    have : ops.toList[0]? = some o := by rw [hops]; rfl
                    simpa using this
                  have hdrop : ops.toList.drop 1 = os := by rw [hops]; rfl
                  refine wpSIn_seq (wpSIn_region ?_)
                  rw [hsz, List.range_eq_range', List.range'_succ]
                  simp only [wpOpsSIn, hi]
                  refine ⟨fun _ _ => trivial, ?_⟩
                  rw [if_pos (by simp [Region.wanted, hg]), hrun]
                  have ha0 := argsT_sound (n := fn.ntmps) hc hle
                  have fin : ∀ (a' : Act), TmpR ρ fn.ntmps t2 a'.tmps → a'.defers = [] → rest.wpSIn Fence.wide 0 P (bodyPostS P fn c₀ cs (fun e u' w' => u' = u1 ∧ CallPost ρ w false v h' e w')) a' ({ c₀ with mode := u1 } :: cs) w := by
                    intro a' ht' hd'
                    refine wpSIn_of_wpIn rfl (wpIn_mono (dret f fn rest _ _ _ _ _ hv ρ a' w ht' hd' hh) ?_)
                    rintro e a1 w1 ⟨he, hd, c, hrun, hp⟩
                    rcases he with rfl | rfl
                    · exact ⟨hd, u1, rfl, c, hrun, rfl, hp⟩
                    · exact ⟨hd, u1, rfl, c, hrun, rfl, hp⟩
                  cases pv with
                  | none =>
                    obtain ⟨rfl, rfl⟩ := hm
                    have hr : recoverD (c₀ :: cs) = none := by simp [recoverD, hu]
                    simp only [hr]
                    have hc0 : c₀ = { c₀ with mode := .returning } := by rw [← hu]
                    refine apures_sound os 1 hdrop ht2 (aput_sound ha0 (v := .niliface) (c := .nilIface) rfl ht1) (fun a' h1 h2 => ?_)
                    have := fin a' h1 (by rw [h2, put_defers])
                    rw [← hc0] at this
                    exact this
                  | some pv =>
                    obtain ⟨c, hcv, rfl, rfl⟩ := hm
                    have hr : recoverD (c₀ :: cs) = some (c, { c₀ with mode := .panicking [{ v := c, recovered := true }] } :: cs) := by simp [recoverD, hu]
                    simp only [hr]
                    refine apures_sound os 1 hdrop ht2 (aput_sound ha0 hcv ht1) (fun a' h1 h2 => ?_)
                    exact fin a' h1 (by rw [h2, put_defers])
                · cases hv
              · cases hv
            · cases hv
          · cases hv
        · cases hv

end Go.Rh

/- A region that draws its order: the evaluator takes it in one order, and looks whether every other order gives the same. -/
namespace Go.Rh
variable {P : Program}

/-! ### Equality -/

def kindEq : IntKind → IntKind → Bool
  | .i8, .i8 => true | .i16, .i16 => true | .i32, .i32 => true | .i64, .i64 => true | .u8, .u8 => true | .u16, .u16 => true | .u32, .u32 => true | .u64, .u64 => true
  | _, _ => false
theorem kindEq_eq {a b : IntKind} (h : kindEq a b = true) : a = b := by cases a <;> cases b <;> first | rfl | cases h
def intEq : Int → Int → Bool
  | .ofNat a, .ofNat b => Nat.beq a b
  | .negSucc a, .negSucc b => Nat.beq a b
  | _, _ => false
theorem intEq_eq {a b : Int} (h : intEq a b = true) : a = b := by
  cases a <;> cases b <;> simp only [intEq] at h <;> first | rw [Nat.eq_of_beq_eq_true h] | cases h

mutual
def avEq : AV → AV → Bool
  | .bool a, .bool b => match a, b with | true, true => true | false, false => true | _, _ => false
  | .int k a, .int j b => match kindEq k j with | true => intEq a b | false => false
  | .str a b, .str c d => match Nat.beq a c with | true => Nat.beq b d | false => false
  | .nilptr, .nilptr => true
  | .ptr l a, .ptr m b => match Pos.beq l m with | true => Nat.beq a b | false => false
  | .nilslice, .nilslice => true
  | .slice l a b c d, .slice m a' b' c' d' => match Pos.beq l m, Nat.beq a a', Nat.beq b b', Nat.beq c c' with | true, true, true, true => Nat.beq d d' | _, _, _, _ => false
  | .eslice, .eslice => true
  | .nilmap, .nilmap => true
  | .map l, .map m => Pos.beq l m
  | .nilfunc, .nilfunc => true
  | .func f vs, .func g us => match Nat.beq f g with | true => avsEq vs us | false => false
  | .yield l, .yield m => Pos.beq l m
  | .niliface, .niliface => true
  | .iface t v, .iface s u => match Nat.beq t s with | true => avEq v u | false => false
  | .agg vs, .agg us => avsEq vs us
  | .tuple vs, .tuple us => avsEq vs us
  | _, _ => false
def avsEq : List AV → List AV → Bool
  | [], [] => true
  | v :: vs, u :: us => match avEq v u with | true => avsEq vs us | false => false
  | _, _ => false
end

mutual
theorem avEq_eq : ∀ {a b : AV}, avEq a b = true → a = b := by
  intro a b h
  cases a <;> cases b <;> simp only [avEq] at h <;> first | rfl | (cases h; done) | skip
  case bool.bool a b => cases a <;> cases b <;> first | rfl | cases h
  case int.int k a j b => split at h <;> first | (rename_i e; rw [kindEq_eq e, intEq_eq h]) | cases h
  case str.str a b c d => split at h <;> first | (rename_i e; rw [Nat.eq_of_beq_eq_true e, Nat.eq_of_beq_eq_true h]) | cases h
  case ptr.ptr l a m b => split at h <;> first | (rename_i e; rw [Pos.beq_iff.1 e, Nat.eq_of_beq_eq_true h]) | cases h
  case slice.slice l a b c d m a' b' c' d' => split at h <;> first | (rename_i e1 e2 e3 e4; rw [Pos.beq_iff.1 e1, Nat.eq_of_beq_eq_true e2, Nat.eq_of_beq_eq_true e3, Nat.eq_of_beq_eq_true e4, Nat.eq_of_beq_eq_true h]) | cases h
  case map.map l m => rw [Pos.beq_iff.1 h]
  case func.func f vs g us => split at h <;> first | (rename_i e; rw [Nat.eq_of_beq_eq_true e, avsEq_eq h]) | cases h
  case yield.yield l m => rw [Pos.beq_iff.1 h]
  case iface.iface t v s u => split at h <;> first | (rename_i e; rw [Nat.eq_of_beq_eq_true e, avEq_eq h]) | cases h
  case agg.agg vs us => rw [avsEq_eq h]
  case tuple.tuple vs us => rw [avsEq_eq h]
theorem avsEq_eq : ∀ {a b : List AV}, avsEq a b = true → a = b := by
  intro a b h
  cases a <;> cases b <;> simp only [avsEq] at h <;> first | rfl | (cases h; done) | skip
  case cons.cons v vs u us => split at h <;> first | (rename_i e; rw [avEq_eq e, avsEq_eq h]) | cases h
end

def kvEq : List (AV × AV) → List (AV × AV) → Bool
  | [], [] => true
  | (k, v) :: r, (j, u) :: s => match avEq k j, avEq v u with | true, true => kvEq r s | _, _ => false
  | _, _ => false
theorem kvEq_eq : ∀ {a b : List (AV × AV)}, kvEq a b = true → a = b
  | [], [], _ => rfl
  | (k, v) :: r, (j, u) :: s, h => by
    simp only [kvEq] at h
    split at h
    · rename_i e1 e2; rw [avEq_eq e1, avEq_eq e2, kvEq_eq h]
    · cases h
  | [], _ :: _, h => by simp [kvEq] at h
  | _ :: _, [], h => by simp [kvEq] at h
def nsEq : List Nat → List Nat → Bool
  | [], [] => true
  | a :: r, b :: s => match Nat.beq a b with | true => nsEq r s | false => false
  | _, _ => false
theorem nsEq_eq : ∀ {a b : List Nat}, nsEq a b = true → a = b
  | [], [], _ => rfl
  | a :: r, b :: s, h => by
    simp only [nsEq] at h
    split at h
    · rename_i e; rw [Nat.eq_of_beq_eq_true e, nsEq_eq h]
    · cases h
  | [], _ :: _, h => by simp [nsEq] at h
  | _ :: _, [], h => by simp [nsEq] at h
def obEq : AObj → AObj → Bool
  | .cells a x e, .cells b y f => match Nat.beq e f with | false => false | true => match x, y with | true, true => avsEq a b | false, false => avsEq a b | _, _ => false
  | .map a bs c, .map b bs' c' => match kvEq a b, nsEq bs bs', Nat.beq c c' with | true, true, true => true | _, _, _ => false
  | _, _ => false
theorem obEq_eq {a b : AObj} (h : obEq a b = true) : a = b := by
  cases a <;> cases b <;> simp only [obEq] at h <;> first | (cases h; done) | skip
  case cells.cells a x e b y f =>
    split at h
    · cases h
    · rename_i he
      have he := Nat.eq_of_beq_eq_true he
      subst he
      cases x <;> cases y <;> first | (rw [avsEq_eq h]; done) | (cases h; done)
  case map.map a bs c b bs' c' =>
    split at h
    · rename_i e1 e2 e3; rw [kvEq_eq e1, nsEq_eq e2, Nat.eq_of_beq_eq_true e3]
    · cases h

/-! ### What is read stays read in a larger heap -/

def Heap.sub (h h' : Heap) : Prop := ∀ l o, T.get l h.m = some o → T.get l h'.m = some o

theorem aload_mono {h h' : Heap} (hs : h.sub h') {l : Pos} {off : Nat} {v : AV} (hv : aload h l off = some v) : aload h' l off = some v := by
  unfold aload at hv ⊢
  split at hv
  · rename_i cs ex elem hg; rw [hs _ _ hg]; exact hv
  · cases hv
theorem aloadN_mono {h h' : Heap} (hs : h.sub h') {l : Pos} {off n : Nat} {v : List AV} (hv : aloadN h l off n = some v) : aloadN h' l off n = some v := by
  unfold aloadN at hv ⊢
  split at hv
  · rename_i cs ex elem hg; rw [hs _ _ hg]; exact hv
  · cases hv
theorem aloadT_mono {h h' : Heap} (hs : h.sub h') {ty : TypeId} {l : Pos} {off : Nat} {v : AV} (hv : aloadT P h ty l off = some v) : aloadT P h' ty l off = some v := by
  unfold aloadT at hv ⊢
  split at hv
  · split at hv
    · split at hv
      · rename_i hn; rw [aloadN_mono hs hn]; exact hv
      · cases hv
    · cases hv
  · exact aload_mono hs hv
  · cases hv
theorem akv_mono {h h' : Heap} (hs : h.sub h') {m : AV} {kv : List (AV × AV)} (hv : akv h m = some kv) : akv h' m = some kv := by
  unfold akv at hv ⊢
  split at hv
  · exact hv
  · split at hv
    · rename_i hg; rw [hs _ _ hg]; exact hv
    · cases hv
  · cases hv
theorem alookup_mono {h h' : Heap} (hs : h.sub h') {ty : TypeId} {m k v : AV} {ok : Bool} (hv : alookup P h ty m k ok = some v) : alookup P h' ty m k ok = some v := by
  unfold alookup at hv ⊢
  split at hv
  · split at hv
    · rename_i hk hc; rw [akv_mono hs hk, hc]; exact hv
    · cases hv
  · cases hv
theorem asliceA_mono {h h' : Heap} (hs : h.sub h') {t : TypeId} {x v : AV} {lo hi mx : Option AV} (hv : asliceA P h t x lo hi mx = some v) : asliceA P h' t x lo hi mx = some v := by
  unfold asliceA at hv ⊢
  split at hv
  · split at hv
    · rename_i hg; rw [hs _ _ hg]; simp_all only
    · cases hv
  · cases hv
theorem abytesStr_mono {h h' : Heap} (hs : h.sub h') {s d : TypeId} {x v : AV} (hv : abytesStr P h s d x = some v) : abytesStr P h' s d x = some v := by
  unfold abytesStr at hv ⊢
  split at hv
  · split at hv
    · split at hv
      · exact hv
      · split at hv
        · rename_i hn; rw [aloadN_mono hs hn]; exact hv
        · cases hv
      · cases hv
    · cases hv
  · cases hv
theorem aread_mono {h h' : Heap} (hs : h.sub h') {t : T AV} {op : Op} {v : AV} (hv : aread P t h op = some v) : aread P t h' op = some v := by
  unfold aread at hv ⊢
  split at hv
  · split at hv
    · exact aloadT_mono hs hv
    · cases hv
  · split at hv
    · exact alookup_mono hs hv
    · cases hv
  · split at hv
    · exact asliceA_mono hs hv
    · cases hv
  · split at hv
    · exact abytesStr_mono hs hv
    · cases hv
  · split at hv
    · split at hv
      · split at hv
        · rename_i hk; rw [akv_mono hs hk]; exact hv
        · cases hv
      · cases hv
    · cases hv
  · cases hv

end Go.Rh

/- The order in which a region that draws is taken, and what is looked at ahead. -/
namespace Go.Rh
variable {P : Program}

structure PIt where
  i : Nat
  o : Oper
  anc : Nat
  hv : Bool
  looks : List Tmp

def bit (m i : Nat) : Bool := Nat.beq (Nat.mod (Nat.shiftRight m i) 2) 1
theorem bit_eq (m i : Nat) : bit m i = m.testBit i := by
  unfold bit
  have h1 : Nat.mod (Nat.shiftRight m i) 2 = (m >>> i) % 2 := rfl
  rw [h1, Nat.testBit_eq_decide_div_mod_eq, Nat.shiftRight_eq_div_pow]
  have := Nat.mod_lt (m / 2 ^ i) (show 2 > 0 by decide)
  by_cases h : m / 2 ^ i % 2 = 1
  · rw [h]; decide
  · have : m / 2 ^ i % 2 = 0 := by omega
    rw [this]; decide
theorem bit_or (a b i : Nat) : bit (Nat.lor a b) i = (bit a i || bit b i) := by
  rw [bit_eq, bit_eq, bit_eq]; exact Nat.testBit_or a b i
theorem bit_one {j i : Nat} (h : bit (Nat.shiftLeft 1 j) i = true) : i = j := by
  rw [bit_eq] at h
  have h1 : Nat.shiftLeft 1 j = 2 ^ j := by have := Nat.one_shiftLeft j; exact this
  rw [h1, Nat.testBit_two_pow] at h
  exact (by simpa using h : j = i).symm
theorem bit_zero (i : Nat) : bit 0 i = false := by rw [bit_eq]; simp

/-- An operation that has to be listed ahead. -/
inductive Anc (ops : Array Oper) : Nat → Nat → Prop
  | edge {i : Nat} {o : Oper} {e : Edge} : ops[i]? = some o → e ∈ o.after → Region.binds .any e = true → Anc ops i e.on
  | step {i j : Nat} {o : Oper} {e : Edge} : ops[i]? = some o → e ∈ o.after → Region.binds .any e = true → Anc ops e.on j → Anc ops i j

def edgeM (i : Nat) (ms : List Nat) : List Edge → Nat → Option Nat
  | [], acc => some acc
  | e :: es, acc => match Region.binds .any e with
    | false => edgeM i ms es acc
    | true => match Nat.blt e.on i, ms[e.on]? with
      | true, some m => fN (Nat.lor acc (Nat.lor m (Nat.shiftLeft 1 e.on))) fun a => edgeM i ms es a
      | _, _ => none

theorem edgeM_sound {i : Nat} {ms : List Nat} : ∀ {es : List Edge} {acc m : Nat}, edgeM i ms es acc = some m →
    (∀ x, bit m x = true → bit acc x = true ∨ ∃ e ∈ es, Region.binds .any e = true ∧ (x = e.on ∨ ∃ me, ms[e.on]? = some me ∧ bit me x = true)) ∧ ∀ e ∈ es, Region.binds .any e = true → e.on < i
  | [], acc, m, h => by
    simp only [edgeM, Option.some.injEq] at h; subst h
    exact ⟨fun x hx => .inl hx, fun e he => by cases he⟩
  | e :: es, acc, m, h => by
    simp only [edgeM] at h
    split at h
    · rename_i hb
      obtain ⟨h1, h2⟩ := edgeM_sound h
      refine ⟨fun x hx => ?_, fun e' he' hb' => ?_⟩
      · rcases h1 x hx with h0 | ⟨e', he', h0⟩
        · exact .inl h0
        · exact .inr ⟨e', List.mem_cons_of_mem _ he', h0⟩
      · rcases List.mem_cons.1 he' with rfl | he'
        · rw [hb] at hb'; cases hb'
        · exact h2 e' he' hb'
    · rename_i hb
      split at h
      · rename_i me hlt hme
        rw [fN_eq] at h
        obtain ⟨h1, h2⟩ := edgeM_sound h
        refine ⟨fun x hx => ?_, fun e' he' hb' => ?_⟩
        · rcases h1 x hx with h0 | ⟨e', he', h0⟩
          · rw [bit_or, bit_or] at h0
            simp only [Bool.or_eq_true] at h0
            rcases h0 with h0 | h0 | h0
            · exact .inl h0
            · exact .inr ⟨e, List.mem_cons_self, hb, .inr ⟨me, hme, h0⟩⟩
            · exact .inr ⟨e, List.mem_cons_self, hb, .inl (bit_one h0)⟩
          · exact .inr ⟨e', List.mem_cons_of_mem _ he', h0⟩
        · rcases List.mem_cons.1 he' with rfl | he'
          · exact blt_lt hlt
          · exact h2 e' he' hb'
      · cases h

def heavyOp : Op → Bool
  | .store .. => true
  | .mapUpdate .. => true
  | .insert .. => true
  | .panic _ => true
  | .defer _ => true
  | .range .. => true
  | .next .. => true
  | .entry _ => true
  | .call c => match c.callee with
    | .builtin .len => false
    | .builtin .cap => false
    | .builtin .min => false
    | .builtin .max => false
    | _ => true
  | _ => false

def items (ops : Array Oper) : List Oper → Nat → List Nat → Option (List PIt)
  | [], _, _ => some []
  | o :: os, i, ms => match edgeM i ms o.after.toList 0 with
    | some m => match items ops os (i + 1) (ms ++ [m]) with
      | some r => some (⟨i, o, m, heavyOp o.op, o.looksAt ops⟩ :: r)
      | none => none
    | none => none

structure ItOK (ops : Array Oper) (x : PIt) : Prop where
  at_ : ops[x.i]? = some x.o
  looks : x.looks = x.o.looksAt ops
  anc : ∀ y, bit x.anc y = true → Anc ops x.i y
  back : ∀ e ∈ x.o.after, Region.binds .any e = true → e.on < x.i

theorem items_sound {ops : Array Oper} : ∀ {os : List Oper} {i : Nat} {ms : List Nat} {r : List PIt}, items ops os i ms = some r → ops.toList.drop i = os → ms.length = i →
    (∀ (j m : Nat), ms[j]? = some m → ∀ x, bit m x = true → Anc ops j x) → ∀ x ∈ r, ItOK ops x
  | [], i, ms, r, h, _, _, _ => by simp only [items, Option.some.injEq] at h; subst h; exact fun x hx => by cases hx
  | o :: os, i, ms, r, h, hd, hl, hm => by
    simp only [items] at h
    split at h
    · rename_i m he
      split at h
      · rename_i r' hr
        simp only [Option.some.injEq] at h; subst h
        have hi : ops[i]? = some o := by
          have : (ops.toList.drop i)[0]? = some o := by rw [hd]; rfl
          simpa using this
        obtain ⟨h1, h2⟩ := edgeM_sound he
        have hanc : ∀ y, bit m y = true → Anc ops i y := fun y hy => by
          rcases h1 y hy with h0 | ⟨e, hmem, hb, h0⟩
          · rw [bit_zero] at h0; cases h0
          · rcases h0 with rfl | ⟨me, hme, h0⟩
            · exact .edge hi (Array.mem_toList_iff.1 hmem) hb
            · exact .step hi (Array.mem_toList_iff.1 hmem) hb (hm _ _ hme y h0)
        intro x hx
        rcases List.mem_cons.1 hx with rfl | hx
        · exact ⟨hi, rfl, hanc, fun e hmem hb => h2 e (Array.mem_toList_iff.2 hmem) hb⟩
        · refine items_sound hr (by rw [← List.tail_drop, hd]; rfl) (by simp [hl]) ?_ x hx
          intro j m' hj y hy
          by_cases hji : j < i
          · rw [List.getElem?_append_left (by omega)] at hj
            exact hm j m' hj y hy
          · rw [List.getElem?_append_right (by omega)] at hj
            have : j - ms.length = 0 := by
              rcases Nat.eq_zero_or_pos (j - ms.length) with h0 | h0
              · exact h0
              · rw [List.getElem?_eq_none (by simp; omega)] at hj; cases hj
            have hj' : j = i := by omega
            subst hj'
            rw [this] at hj
            simp at hj; subst hj
            exact hanc y hy
      · cases h
    · cases h

def lightsAt (its : List PIt) (H hm : Nat) : List PIt := its.filter fun x => match x.hv with | true => false | false => Nat.beq (Nat.land x.anc H) hm
def blocksR (its : List PIt) (H : Nat) : List PIt → Nat → List PIt
  | [], hm => lightsAt its H hm
  | e :: es, hm => lightsAt its H hm ++ e :: blocksR its H es (Nat.lor hm (Nat.shiftLeft 1 e.i))
def hmask : List PIt → Nat → Nat
  | [], a => a
  | e :: es, a => fN (Nat.lor a (Nat.shiftLeft 1 e.i)) fun a => hmask es a
def canon (its : List PIt) : List PIt := blocksR its (hmask (its.filter (·.hv)) 0) (its.filter (·.hv)) 0

theorem blocksR_mem {its : List PIt} {H : Nat} : ∀ {es : List PIt} {hm : Nat}, (∀ e ∈ es, e ∈ its) → ∀ x ∈ blocksR its H es hm, x ∈ its
  | [], hm, _, x, hx => (List.mem_filter.1 hx).1
  | e :: es, hm, he, x, hx => by
    simp only [blocksR, List.mem_append, List.mem_cons] at hx
    rcases hx with hx | rfl | hx
    · exact (List.mem_filter.1 hx).1
    · exact he _ List.mem_cons_self
    · exact blocksR_mem (fun e h => he e (List.mem_cons_of_mem _ h)) x hx
theorem canon_mem {its : List PIt} : ∀ x ∈ canon its, x ∈ its := blocksR_mem fun e he => (List.mem_filter.1 he).1

def memT (d : Nat) : List Tmp → Bool
  | [] => false
  | x :: xs => match Nat.beq x d with | true => true | false => memT d xs
theorem memT_iff {d : Nat} : ∀ {l : List Tmp}, memT d l = true ↔ d ∈ l
  | [] => by simp [memT]
  | x :: xs => by
    simp only [memT]
    split
    · rename_i h; have := Nat.eq_of_beq_eq_true h; subst this; simp
    · rename_i h
      have hne : x ≠ d := fun e => by rw [e] at h; simp at h
      rw [memT_iff]; simp [Ne.symm hne]

/-- 'x' ahead of 'y'. -/
def relP (x y : PIt) : Bool :=
  !Nat.beq x.i y.i && !bit x.anc y.i && (!x.hv || bit y.anc x.i) &&
  (match x.o.dst with
   | none => true
   | some d => (!memT d y.looks || bit y.anc x.i) && (match y.o.dst with | none => true | some d' => !Nat.beq d d')) &&
  (match y.o.dst with | none => true | some d => !memT d x.looks || bit y.anc x.i)
def pairs : List PIt → Bool
  | [] => true
  | x :: xs => xs.all (relP x) && pairs xs
def covers (L : List PIt) : Nat → Bool
  | 0 => true
  | n + 1 => L.any (fun x => Nat.beq x.i n) && covers L n

structure RelOK (x y : PIt) : Prop where
  ne : x.i ≠ y.i
  anc : bit x.anc y.i = false
  hv : x.hv = true → bit y.anc x.i = true
  d1 : ∀ d, x.o.dst = some d → d ∈ y.looks → bit y.anc x.i = true
  d2 : ∀ d, x.o.dst = some d → y.o.dst ≠ some d
  d3 : ∀ d, y.o.dst = some d → d ∈ x.looks → bit y.anc x.i = true

theorem relP_sound {x y : PIt} (h : relP x y = true) : RelOK x y := by
  unfold relP at h
  simp only [Bool.and_eq_true, Bool.not_eq_true', Bool.or_eq_true] at h
  obtain ⟨⟨⟨⟨h1, h2⟩, h3⟩, h4⟩, h5⟩ := h
  refine ⟨fun e => by rw [e] at h1; simp at h1, h2, fun e => ?_, fun d hd hl => ?_, fun d hd => ?_, fun d hd hl => ?_⟩
  · rcases h3 with h3 | h3
    · rw [e] at h3; cases h3
    · exact h3
  · rw [hd] at h4
    simp only [Bool.and_eq_true, Bool.not_eq_true', Bool.or_eq_true] at h4
    rcases h4.1 with h | h
    · rw [memT_iff.2 hl] at h; cases h
    · exact h
  · rw [hd] at h4
    simp only [Bool.and_eq_true] at h4
    intro e
    rw [e] at h4
    simp at h4
  · rw [hd] at h5
    simp only [Bool.not_eq_true', Bool.or_eq_true] at h5
    rcases h5 with h | h
    · rw [memT_iff.2 hl] at h; cases h
    · exact h

structure PlanOK (ops : Array Oper) (L : List PIt) : Prop where
  item : ∀ x ∈ L, ItOK ops x
  pw : L.Pairwise RelOK
  cov : ∀ i, i < ops.size → ∃ x ∈ L, x.i = i

theorem pairs_sound : ∀ {L : List PIt}, pairs L = true → L.Pairwise RelOK
  | [], _ => .nil
  | x :: xs, h => by
    simp only [pairs, Bool.and_eq_true, List.all_eq_true] at h
    exact .cons (fun y hy => relP_sound (h.1 y hy)) (pairs_sound h.2)

theorem covers_sound {L : List PIt} : ∀ {n : Nat}, covers L n = true → ∀ i, i < n → ∃ x ∈ L, x.i = i
  | 0, _, i, hi => by omega
  | n + 1, h, i, hi => by
    simp only [covers, Bool.and_eq_true, List.any_eq_true] at h
    by_cases e : i = n
    · subst e
      obtain ⟨x, hx, he⟩ := h.1
      exact ⟨x, hx, Nat.eq_of_beq_eq_true he⟩
    · exact covers_sound h.2 i (by omega)

def checkL (ops : Array Oper) (L : List PIt) : Option (List PIt) := match pairs L, covers L ops.size with | true, true => some L | _, _ => none
def plan (ops : Array Oper) : Option (List PIt) :=
  match items ops ops.toList 0 [] with
  | none => none
  | some its => checkL ops (canon its)

theorem plan_sound {ops : Array Oper} {L : List PIt} (h : plan ops = some L) : PlanOK ops L := by
  unfold plan at h
  split at h
  · cases h
  · rename_i its hi
    unfold checkL at h
    split at h
    · rename_i hp hc
      simp only [Option.some.injEq] at h; subst h
      exact ⟨fun x hx => items_sound hi rfl rfl (fun j m h => by simp at h) x (canon_mem x hx), pairs_sound hp, covers_sound hc⟩
    · cases h

end Go.Rh

/- A region that draws its order, evaluated. -/
namespace Go.Rh
variable {P : Program}

inductive LR where
  | fixed | read | obj (l : Pos) (ob : AObj)

structure PEnt where
  it : PIt
  tt : T AV
  v : AV
  r : LR

/-- The temporaries that an operation looks at. -/
def tmpsOf (t : T AV) : List Tmp → T AV → T AV
  | [], acc => acc
  | d :: ds, acc => match T.get (Pos.ofNat d) t with
    | some v => T.forceK (T.set (some v) (Pos.ofNat d) acc) fun acc => tmpsOf t ds acc
    | none => tmpsOf t ds acc

theorem tmpsOf_get (t : T AV) : ∀ (l : List Tmp) (acc : T AV) (d : Nat) (v : AV), T.get (Pos.ofNat d) (tmpsOf t l acc) = some v → (d ∈ l ∧ T.get (Pos.ofNat d) t = some v) ∨ T.get (Pos.ofNat d) acc = some v
  | [], acc, d, v, h => .inr h
  | x :: xs, acc, d, v, h => by
    simp only [tmpsOf] at h
    split at h
    · rename_i u hu
      rw [T.forceK_eq] at h
      rcases tmpsOf_get t xs _ d v h with ⟨h1, h2⟩ | h1
      · exact .inl ⟨List.mem_cons_of_mem _ h1, h2⟩
      · by_cases e : x = d
        · subst e
          rw [T.get_set_same] at h1
          exact .inl ⟨List.mem_cons_self, by rw [hu, h1]⟩
        · rw [T.get_set_other _ _ _ _ (fun e' => e (Pos.ofNat_inj e'))] at h1
          exact .inr h1
    · rcases tmpsOf_get t xs _ d v h with ⟨h1, h2⟩ | h1
      · exact .inl ⟨List.mem_cons_of_mem _ h1, h2⟩
      · exact .inr h1

section
variable (P : Program)

/-- An operation that changes nothing but makes memory. -/
def alight (ops : Array Oper) (o : Oper) (tt : T AV) (h : Heap) : Option (AV × LR × Heap) :=
  match aguard ops o tt with
  | none => none
  | some false => some (.tuple [], .fixed, h)
  | some true => match apure P tt o.op with
    | some v => some (v, .fixed, h)
    | none => match aread P tt h o.op with
      | some v => some (v, .read, h)
      | none => match aalloc P tt o.op with
        | some (ob, mk) => match T.get h.next h.m with
          | none => h.pushK ob fun h' => some (mk h.next, .obj h.next ob, h')
          | some _ => none
        | none => none

def recheck (h : Heap) : List PEnt → Bool
  | [] => true
  | e :: es => match e.r with
    | .fixed => recheck h es
    | .read => match aread P e.tt h e.it.o.op with
      | some v => match avEq e.v v with | true => recheck h es | false => false
      | none => false
    | .obj l ob => match T.get l h.m with
      | some ob' => match obEq ob ob' with | true => recheck h es | false => false
      | none => false

/-- The entries that an operation does not hang on. -/
def keepE (anc : Nat) : List PEnt → List PEnt
  | [] => []
  | e :: es => match bit anc e.it.i with | true => keepE anc es | false => e :: keepE anc es

def drun (self : Self) (rd : Option Pos) (nt : Nat) (ops : Array Oper) : List PIt → List PEnt → ASt → Option (AEx × ASt)
  | [], _, s => some (.norm, s)
  | x :: xs, pend, s => match x.hv with
    | false => T.forceK (tmpsOf s.t x.looks .leaf) fun tt => match alight P ops x.o tt s.h with
      | some (v, r, h) => match aput nt s.t x.o.dst v with
        | some t => drun self rd nt ops xs (⟨x, tt, v, r⟩ :: pend) ⟨t, s.ds, h⟩
        | none => none
      | none => none
    | true => T.forceK (tmpsOf s.t x.looks .leaf) fun tt => match aguard ops x.o tt with
      | none => none
      | some false => match aput nt s.t x.o.dst (.tuple []) with
        | some t => drun self rd nt ops xs pend ⟨t, s.ds, s.h⟩
        | none => none
      | some true => match aop P self tt s.h x.o.op with
        | some (false, v, h) => match recheck P h (keepE x.anc pend) with
          | true => match aput nt s.t x.o.dst v with
            | some t => drun self rd nt ops xs (keepE x.anc pend) ⟨t, s.ds, h⟩
            | none => none
          | false => none
        | some (true, v, h) => match keepE x.anc pend with
          | [] => some (.panic v, ⟨s.t, s.ds, h⟩)
          | _ :: _ => none
        | none => match rd, adefer tt x.o.op with
          | none, some d => match aput nt s.t x.o.dst (.tuple []) with
            | some t => drun self rd nt ops xs pend ⟨t, d :: s.ds, s.h⟩
            | none => none
          | _, _ => none

def adraw : Draws := fun self rd nt ops s => match plan ops with
  | some L => drun P self rd nt ops L [] s
  | none => none
end

theorem keepE_mem {anc : Nat} : ∀ {l : List PEnt} {e : PEnt}, e ∈ keepE anc l ↔ e ∈ l ∧ bit anc e.it.i = false
  | [], e => by simp [keepE]
  | x :: xs, e => by
    simp only [keepE]
    split
    · rename_i h
      rw [keepE_mem]
      constructor
      · rintro ⟨h1, h2⟩; exact ⟨List.mem_cons_of_mem _ h1, h2⟩
      · rintro ⟨h1, h2⟩
        rcases List.mem_cons.1 h1 with rfl | h1
        · rw [h] at h2; cases h2
        · exact ⟨h1, h2⟩
    · rename_i h
      simp only [List.mem_cons, keepE_mem]
      constructor
      · rintro (rfl | ⟨h1, h2⟩)
        · exact ⟨.inl rfl, h⟩
        · exact ⟨.inr h1, h2⟩
      · rintro ⟨rfl | h1, h2⟩
        · exact .inl rfl
        · exact .inr ⟨h1, h2⟩

/-- What an entry that is still to be carried out says. -/
def LV (P : Program) (ops : Array Oper) (h : Heap) (e : PEnt) : Prop :=
  match e.r with
  | .fixed => (aguard ops e.it.o e.tt = some false ∧ e.v = .tuple []) ∨ (aguard ops e.it.o e.tt = some true ∧ apure P e.tt e.it.o.op = some e.v)
  | .read => aguard ops e.it.o e.tt = some true ∧ aread P e.tt h e.it.o.op = some e.v
  | .obj l ob => aguard ops e.it.o e.tt = some true ∧ ∃ mk, aalloc P e.tt e.it.o.op = some (ob, mk) ∧ e.v = mk l ∧ T.get l h.m = some ob ∧ l.toNat < h.next.toNat

theorem recheck_sound {ops : Array Oper} {h h' : Heap} (hn : h.next.toNat ≤ h'.next.toNat) : ∀ {l : List PEnt}, recheck P h' l = true → ∀ e ∈ l, LV P ops h e → LV P ops h' e
  | [], _, e, he, _ => by cases he
  | x :: xs, hr, e, he, hl => by
    simp only [recheck] at hr
    split at hr
    · rename_i hx
      rcases List.mem_cons.1 he with rfl | he
      · unfold LV at hl ⊢; rw [hx] at hl ⊢; exact hl
      · exact recheck_sound hn hr e he hl
    · rename_i hx
      split at hr
      · rename_i v hv
        split at hr
        · rename_i hq
          rcases List.mem_cons.1 he with rfl | he
          · unfold LV at hl ⊢; rw [hx] at hl ⊢
            exact ⟨hl.1, by rw [avEq_eq hq]; exact hv⟩
          · exact recheck_sound hn hr e he hl
        · cases hr
      · cases hr
    · rename_i l ob hx
      split at hr
      · rename_i ob' hv
        split at hr
        · rename_i hq
          rcases List.mem_cons.1 he with rfl | he
          · unfold LV at hl ⊢; rw [hx] at hl ⊢
            obtain ⟨h1, mk, h2, h3, h4, h5⟩ := hl
            refine ⟨h1, mk, h2, h3, ?_, Nat.lt_of_lt_of_le h5 hn⟩
            rw [hv, obEq_eq hq]
          · exact recheck_sound hn hr e he hl
        · cases hr
      · cases hr

end Go.Rh

/- A region that draws its order: the evaluator is right. -/
namespace Go.Rh
variable {P : Program}

theorem aput_facts {nt : Nat} {t t' : T AV} {dst : Option Tmp} {v : AV} (h : aput nt t dst v = some t') :
    (∀ d, dst = some d → d < nt ∧ T.get (Pos.ofNat d) t' = some v) ∧ ∀ d, dst ≠ some d → T.get (Pos.ofNat d) t' = T.get (Pos.ofNat d) t := by
  unfold aput at h
  split at h
  · simp only [Option.some.injEq] at h; subst h; exact ⟨fun d hd => (by cases hd), fun d _ => rfl⟩
  · rename_i x
    split at h
    · rename_i hd
      rw [T.forceK_eq] at h
      simp only [Option.some.injEq] at h; subst h
      refine ⟨fun d hd' => ?_, fun d hd' => ?_⟩
      · cases hd'; exact ⟨blt_lt hd, T.get_set_same _ _ _⟩
      · exact T.get_set_other _ _ _ _ (fun e => hd' (by rw [Pos.ofNat_inj e]))
    · cases h

theorem put_size (a : Act) (dst : Option Tmp) (c : Value) : (a.put dst c).tmps.size = a.tmps.size := by cases dst <;> simp [Act.put]
theorem put_same {a : Act} {d : Nat} (c : Value) (h : d < a.tmps.size) : (a.put (some d) c).tmps.getD d undef = c := by
  simp [Act.put, Array.getD, h]
theorem put_other (a : Act) {dst : Option Tmp} {d : Nat} (c : Value) (h : dst ≠ some d) : (a.put dst c).tmps.getD d undef = a.tmps.getD d undef := by
  cases dst with
  | none => rfl
  | some x =>
    have hne : x ≠ d := fun e => h (by rw [e])
    simp only [Act.put, Array.getD_eq_getD_getElem?]
    rw [Array.getElem?_setIfInBounds_ne hne]

theorem set_false {X : Array Bool} {i j : Nat} (hi : i < X.size) : (X.setIfInBounds i true).getD j false = false ↔ j ≠ i ∧ X.getD j false = false := by
  by_cases e : i = j
  · subst e; simp [Array.getD_eq_getD_getElem?, hi]
  · simp [Array.getD_eq_getD_getElem?, Array.getElem?_setIfInBounds_ne e, Ne.symm e]
theorem set_true {X : Array Bool} {i j : Nat} (hi : i < X.size) : (X.setIfInBounds i true).getD j false = true ↔ j = i ∨ X.getD j false = true := by
  by_cases e : i = j
  · subst e; simp [Array.getD_eq_getD_getElem?, hi]
  · simp [Array.getD_eq_getD_getElem?, Array.getElem?_setIfInBounds_ne e, Ne.symm e]

theorem LV_mono {ops : Array Oper} {h h' : Heap} (hs : h.sub h') (hn : h.next.toNat ≤ h'.next.toNat) {e : PEnt} (hl : LV P ops h e) : LV P ops h' e := by
  unfold LV at hl ⊢
  split at hl
  · exact hl
  · exact ⟨hl.1, aread_mono hs hl.2⟩
  · obtain ⟨h1, mk, h2, h3, h4, h5⟩ := hl
    exact ⟨h1, mk, h2, h3, hs _ _ h4, Nat.lt_of_lt_of_le h5 hn⟩

theorem alight_facts {ops : Array Oper} {o : Oper} {tt : T AV} {h0 h : Heap} {v : AV} {r : LR} (hv : alight P ops o tt h0 = some (v, r, h)) :
    (∀ it, it.o = o → LV P ops h ⟨it, tt, v, r⟩) ∧ h0.sub h ∧ h0.next.toNat ≤ h.next.toNat ∧ (∀ ρ w, HR ρ h0 w → HR ρ h w) ∧ ∀ l ob, r = .obj l ob → l = h0.next := by
  have refl : h0.sub h0 := fun _ _ h => h
  unfold alight at hv
  split at hv
  · cases hv
  · rename_i hg
    simp only [Option.some.injEq, Prod.mk.injEq] at hv
    obtain ⟨rfl, rfl, rfl⟩ := hv
    exact ⟨fun it e => by subst e; exact .inl ⟨hg, rfl⟩, refl, Nat.le_refl _, fun _ _ h => h, fun _ _ h => by cases h⟩
  · rename_i hg
    split at hv
    · rename_i u hp
      simp only [Option.some.injEq, Prod.mk.injEq] at hv
      obtain ⟨rfl, rfl, rfl⟩ := hv
      exact ⟨fun it e => by subst e; exact .inr ⟨hg, hp⟩, refl, Nat.le_refl _, fun _ _ h => h, fun _ _ h => by cases h⟩
    · split at hv
      · rename_i u hp
        simp only [Option.some.injEq, Prod.mk.injEq] at hv
        obtain ⟨rfl, rfl, rfl⟩ := hv
        exact ⟨fun it e => by subst e; exact ⟨hg, hp⟩, refl, Nat.le_refl _, fun _ _ h => h, fun _ _ h => by cases h⟩
      · split at hv
        · rename_i ob mk hal
          split at hv
          · rename_i hnone
            rw [Heap.pushK_eq] at hv
            simp only [Option.some.injEq, Prod.mk.injEq] at hv
            obtain ⟨rfl, rfl, rfl⟩ := hv
            refine ⟨fun it e => by subst e; exact ⟨hg, mk, hal, rfl, by simp [Heap.push, T.get_set_same], by simp [Heap.push]⟩, fun l o hl => ?_, by simp [Heap.push], fun ρ w hh => hh.widen (by simp [Heap.push]) (fun l j hl => ?_), fun _ _ h => by cases h; rfl⟩
            · simp only [Heap.push]
              rw [T.get_set_other _ _ _ _ (fun e => by rw [e, hl] at hnone; cases hnone)]; exact hl
            · simp only [Heap.push]
              exact T.get_set_other _ _ _ _ (fun e => by rw [← e, hh.fresh_none] at hl; cases hl)
          · cases hv
        · cases hv

/-- What is to come is known, and all that has come is related. -/
structure Inv (P : Program) (ops : Array Oper) (L : List PIt) (nt : Nat) (ρ0 : Ren) (w0 : World) (xs : List PIt) (pend : List PEnt) (s : ASt) (X : Array Bool) (ρ : Ren) (a : Act) (w : World) : Prop where
  pre : ∃ pre, L = pre ++ xs ∧ ∀ e ∈ pend, e.it ∈ pre
  size : X.size = ops.size
  cov : ∀ i, i < ops.size → X.getD i false = true ∨ (∃ e ∈ pend, e.it.i = i) ∨ ∃ x ∈ xs, x.i = i
  xsX : ∀ x ∈ xs, X.getD x.i false = false
  uniq : ∀ e ∈ pend, ∀ e' ∈ pend, e.it.i = e'.it.i → e = e'
  clo : ∀ i, X.getD i false = true → ∀ j, Anc ops i j → X.getD j false = true
  ext : Ext ρ0 w0 ρ w
  h : HR ρ s.h w
  ds : DR ρ s.ds a.defers
  sz : a.tmps.size = nt
  t : ∀ d u, T.get (Pos.ofNat d) s.t = some u → (∃ e ∈ pend, X.getD e.it.i false = false ∧ e.it.o.dst = some d ∧ e.v = u) ∨
    ((∀ e ∈ pend, X.getD e.it.i false = false → e.it.o.dst ≠ some d) ∧ d < nt ∧ VR ρ u (a.tmps.getD d undef))
  lv : ∀ e ∈ pend, X.getD e.it.i false = false → LV P ops s.h e ∧ ∀ d, e.it.o.dst = some d → d < nt
  tt : ∀ e ∈ pend, X.getD e.it.i false = false → ∀ d u, T.get (Pos.ofNat d) e.tt = some u → d ∈ e.it.looks ∧
    ((∃ e' ∈ pend, X.getD e'.it.i false = false ∧ e'.it.o.dst = some d ∧ bit e.it.anc e'.it.i = true ∧ e'.v = u) ∨
     ((∀ e' ∈ pend, X.getD e'.it.i false = false → e'.it.o.dst = some d → e'.it.i ≠ e.it.i → bit e'.it.anc e.it.i = true) ∧ d < nt ∧ VR ρ u (a.tmps.getD d undef)))
  obj : ∀ e ∈ pend, X.getD e.it.i false = false → ∀ l ob, e.r = .obj l ob → ρ l = none ∧ ρ0.n ≤ l.toNat
  objs : ∀ e ∈ pend, ∀ e' ∈ pend, X.getD e.it.i false = false → X.getD e'.it.i false = false → ∀ l ob ob', e.r = .obj l ob → e'.r = .obj l ob' → e = e'

theorem pw_or {R : PIt → PIt → Prop} : ∀ {L : List PIt}, L.Pairwise R → ∀ x ∈ L, ∀ y ∈ L, x.i ≠ y.i → R x y ∨ R y x
  | [], _, x, hx, _, _, _ => by cases hx
  | z :: zs, h, x, hx, y, hy, hne => by
    rw [List.pairwise_cons] at h
    rcases List.mem_cons.1 hx with e1 | hx1
    · rcases List.mem_cons.1 hy with e2 | hy1
      · exact absurd (by rw [e1, e2]) hne
      · exact .inl (e1 ▸ h.1 y hy1)
    · rcases List.mem_cons.1 hy with e2 | hy1
      · exact .inr (e2 ▸ h.1 x hx1)
      · exact pw_or h.2 x hx1 y hy1 hne

section
variable {ops : Array Oper} {L : List PIt} {nt : Nat} {ρ0 : Ren} {w0 : World} {xs : List PIt} {pend : List PEnt} {s : ASt} {X : Array Bool} {ρ : Ren} {a : Act} {w : World}

theorem Inv.inL (I : Inv P ops L nt ρ0 w0 xs pend s X ρ a w) {e : PEnt} (he : e ∈ pend) : e.it ∈ L := by
  obtain ⟨pre, h1, h2⟩ := I.pre; rw [h1]; exact List.mem_append_left _ (h2 e he)
theorem Inv.xInL (I : Inv P ops L nt ρ0 w0 xs pend s X ρ a w) {x : PIt} (hx : x ∈ xs) : x ∈ L := by
  obtain ⟨pre, h1, h2⟩ := I.pre; rw [h1]; exact List.mem_append_right _ hx
theorem Inv.rel (hp : PlanOK ops L) (I : Inv P ops L nt ρ0 w0 xs pend s X ρ a w) {e : PEnt} (he : e ∈ pend) {x : PIt} (hx : x ∈ xs) : RelOK e.it x := by
  obtain ⟨pre, h1, h2⟩ := I.pre
  have := hp.pw
  rw [h1, List.pairwise_append] at this
  exact this.2.2 _ (h2 e he) _ hx
theorem Inv.rel2 (hp : PlanOK ops L) (I : Inv P ops L nt ρ0 w0 xs pend s X ρ a w) {e e' : PEnt} (he : e ∈ pend) (he' : e' ∈ pend) (hne : e.it.i ≠ e'.it.i) : RelOK e.it e'.it ∨ RelOK e'.it e.it :=
  pw_or hp.pw _ (I.inL he) _ (I.inL he') hne
theorem Inv.d2 (hp : PlanOK ops L) (I : Inv P ops L nt ρ0 w0 xs pend s X ρ a w) {e e' : PEnt} (he : e ∈ pend) (he' : e' ∈ pend) (hne : e.it.i ≠ e'.it.i) {d : Nat} (h1 : e.it.o.dst = some d) : e'.it.o.dst ≠ some d := by
  rcases I.rel2 hp he he' hne with h | h
  · exact h.d2 d h1
  · intro h2; exact h.d2 d h2 h1

/-- The order goes on past an operation that may come later. -/
theorem Inv.light (hp : PlanOK ops L) {x : PIt} (I : Inv P ops L nt ρ0 w0 (x :: xs) pend s X ρ a w) {v : AV} {r : LR} {h : Heap} {t : T AV} (hal : alight P ops x.o (tmpsOf s.t x.looks .leaf) s.h = some (v, r, h))
    (hput : aput nt s.t x.o.dst v = some t) : Inv P ops L nt ρ0 w0 xs (⟨x, tmpsOf s.t x.looks .leaf, v, r⟩ :: pend) ⟨t, s.ds, h⟩ X ρ a w := by
  obtain ⟨f1, f2, f3, f4, f5⟩ := alight_facts hal
  obtain ⟨g1, g2⟩ := aput_facts hput
  have hx0 : X.getD x.i false = false := I.xsX x List.mem_cons_self
  have hrel : ∀ {e : PEnt}, e ∈ pend → RelOK e.it x := fun he => I.rel hp he List.mem_cons_self
  refine ⟨?_, I.size, fun i hi => ?_, fun y hy => I.xsX y (List.mem_cons_of_mem _ hy), fun e he e' he' hi => ?_, I.clo, I.ext, f4 ρ w I.h, I.ds, I.sz, fun d u hu => ?_, fun e he h0 => ?_, fun e he h0 d u hu => ?_, fun e he h0 l ob hr => ?_, fun e he e' he' h0 h0' l ob ob' hr hr' => ?_⟩
  · obtain ⟨pre, h1, h2⟩ := I.pre
    refine ⟨pre ++ [x], by simp [h1], fun e he => ?_⟩
    rcases List.mem_cons.1 he with rfl | he
    · simp
    · exact List.mem_append_left _ (h2 e he)
  · rcases I.cov i hi with h0 | ⟨e, he, h0⟩ | ⟨y, hy, h0⟩
    · exact .inl h0
    · exact .inr (.inl ⟨e, List.mem_cons_of_mem _ he, h0⟩)
    · rcases List.mem_cons.1 hy with rfl | hy
      · exact .inr (.inl ⟨_, List.mem_cons_self, h0⟩)
      · exact .inr (.inr ⟨y, hy, h0⟩)
  · rcases List.mem_cons.1 he with rfl | he
    · rcases List.mem_cons.1 he' with rfl | he'
      · rfl
      · exact absurd hi.symm (hrel he').ne
    · rcases List.mem_cons.1 he' with rfl | he'
      · exact absurd hi (hrel he).ne
      · exact I.uniq e he e' he' hi
  · by_cases hd : x.o.dst = some d
    · have := (g1 d hd).2
      simp only at hu
      rw [this] at hu
      simp only [Option.some.injEq] at hu
      exact .inl ⟨_, List.mem_cons_self, hx0, hd, hu⟩
    · simp only at hu
      rw [g2 d hd] at hu
      rcases I.t d u hu with ⟨e, he, h1, h2, h3⟩ | ⟨h1, h2, h3⟩
      · exact .inl ⟨e, List.mem_cons_of_mem _ he, h1, h2, h3⟩
      · refine .inr ⟨fun e he h0 => ?_, h2, h3⟩
        rcases List.mem_cons.1 he with rfl | he
        · exact hd
        · exact h1 e he h0
  · rcases List.mem_cons.1 he with rfl | he
    · exact ⟨f1 x rfl, fun d hd => (g1 d hd).1⟩
    · obtain ⟨h1, h2⟩ := I.lv e he h0
      exact ⟨LV_mono f2 f3 h1, h2⟩
  · rcases List.mem_cons.1 he with rfl | he
    · rcases tmpsOf_get s.t x.looks .leaf d u hu with ⟨h1, h2⟩ | h1
      · refine ⟨h1, ?_⟩
        rcases I.t d u h2 with ⟨e, he, k1, k2, k3⟩ | ⟨k1, k2, k3⟩
        · exact .inl ⟨e, List.mem_cons_of_mem _ he, k1, k2, (hrel he).d1 d k2 h1, k3⟩
        · refine .inr ⟨fun e' he' h0' hd' hne => ?_, k2, k3⟩
          rcases List.mem_cons.1 he' with rfl | he'
          · exact absurd rfl hne
          · exact absurd hd' (k1 e' he' h0')
      · simp at h1
    · obtain ⟨h1, h2⟩ := I.tt e he h0 d u hu
      refine ⟨h1, ?_⟩
      rcases h2 with ⟨e', he', k⟩ | ⟨k1, k2, k3⟩
      · exact .inl ⟨e', List.mem_cons_of_mem _ he', k⟩
      · refine .inr ⟨fun e' he' h0' hd' hne => ?_, k2, k3⟩
        rcases List.mem_cons.1 he' with rfl | he'
        · exact (hrel he).d3 d hd' h1
        · exact k1 e' he' h0' hd' hne
  · rcases List.mem_cons.1 he with rfl | he
    · have := f5 l ob hr
      subst this
      exact ⟨I.h.fresh_none, by have := I.h.low; rw [I.ext.nn] at this; exact this⟩
    · exact I.obj e he h0 l ob hr
  · have old : ∀ {e : PEnt}, e ∈ pend → X.getD e.it.i false = false → ∀ ob, e.r = .obj s.h.next ob → False := fun he h0 ob hr => by
      have := (I.lv _ he h0).1
      unfold LV at this
      rw [hr] at this
      obtain ⟨_, mk, _, _, _, h5⟩ := this
      omega
    rcases List.mem_cons.1 he with rfl | he
    · rcases List.mem_cons.1 he' with rfl | he'
      · rfl
      · have := f5 l ob hr
        subst this
        exact (old he' h0' ob' hr').elim
    · rcases List.mem_cons.1 he' with rfl | he'
      · have := f5 l ob' hr'
        subst this
        exact (old he h0 ob hr).elim
      · exact I.objs e he e' he' h0 h0' l ob ob' hr hr'

/-- An operation that was to come has come. -/
theorem Inv.done (hp : PlanOK ops L) (I : Inv P ops L nt ρ0 w0 xs pend s X ρ a w) {e : PEnt} (he : e ∈ pend) (h0 : X.getD e.it.i false = false) (hready : ∀ j, Anc ops e.it.i j → X.getD j false = true)
    {ρ' : Ren} {w' : World} {c : Value} (hx : Ext ρ w ρ' w') (hh : HR ρ' s.h w') (hc : VR ρ' e.v c) (hnew : ∀ l i, ρ' l = some i → ρ l = some i ∨ ∃ ob, e.r = .obj l ob) :
    Inv P ops L nt ρ0 w0 xs pend s (X.setIfInBounds e.it.i true) ρ' (a.put e.it.o.dst c) w' := by
  have hi : e.it.i < X.size := by
    rw [I.size]; exact (Array.getElem?_eq_some_iff.1 (hp.item _ (I.inL he)).at_).1
  have hanc : ∀ j, bit e.it.anc j = true → X.getD j false = true := fun j hj => hready j ((hp.item _ (I.inL he)).anc j hj)
  refine ⟨I.pre, by rw [Array.size_setIfInBounds]; exact I.size, fun i hi' => ?_, fun x hxs => ?_, I.uniq, fun i hi' j hj => ?_, I.ext.trans hx, hh, by rw [put_defers]; exact I.ds.mono hx.le, by rw [put_size]; exact I.sz, fun d u hu => ?_, fun e2 he2 h2 => ?_, fun e2 he2 h2 d u hu => ?_, fun e2 he2 h2 l ob hr => ?_, fun e2 he2 e3 he3 h2 h3 => ?_⟩
  · rcases I.cov i hi' with h1 | h1 | h1
    · exact .inl ((set_true hi).2 (.inr h1))
    · exact .inr (.inl h1)
    · exact .inr (.inr h1)
  · exact (set_false hi).2 ⟨Ne.symm (I.rel hp he hxs).ne, I.xsX x hxs⟩
  · refine (set_true hi).2 (.inr ?_)
    rcases (set_true hi).1 hi' with rfl | h1
    · exact hready j hj
    · exact I.clo i h1 j hj
  · rcases I.t d u hu with ⟨e2, he2, k1, k2, k3⟩ | ⟨k1, k2, k3⟩
    · by_cases hie : e2.it.i = e.it.i
      · have := I.uniq e2 he2 e he hie
        subst this
        have hd := (I.lv e2 he2 h0).2 d k2
        refine .inr ⟨fun e3 he3 h3 hd3 => ?_, hd, ?_⟩
        · have hne := ((set_false hi).1 h3).1
          exact I.d2 hp he2 he3 (Ne.symm hne) k2 hd3
        · rw [k2, put_same c (by rw [I.sz]; exact hd), ← k3]; exact hc
      · exact .inl ⟨e2, he2, (set_false hi).2 ⟨hie, k1⟩, k2, k3⟩
    · refine .inr ⟨fun e3 he3 h3 => k1 e3 he3 ((set_false hi).1 h3).2, k2, ?_⟩
      rw [put_other _ _ (k1 e he h0)]; exact VR.mono hx.le k3
  · exact I.lv e2 he2 ((set_false hi).1 h2).2
  · obtain ⟨hne, h2'⟩ := (set_false hi).1 h2
    obtain ⟨k0, k⟩ := I.tt e2 he2 h2' d u hu
    refine ⟨k0, ?_⟩
    rcases k with ⟨e', he', k1, k2, k3, k4⟩ | ⟨k1, k2, k3⟩
    · by_cases hie : e'.it.i = e.it.i
      · have := I.uniq e' he' e he hie
        subst this
        have hd := (I.lv e' he' h0).2 d k2
        refine .inr ⟨fun e3 he3 h3 hd3 hne3 => ?_, hd, ?_⟩
        · have hne' := ((set_false hi).1 h3).1
          exact absurd hd3 (I.d2 hp he' he3 (Ne.symm hne') k2)
        · rw [k2, put_same c (by rw [I.sz]; exact hd), ← k4]; exact hc
      · exact .inl ⟨e', he', (set_false hi).2 ⟨hie, k1⟩, k2, k3, k4⟩
    · have hd : e.it.o.dst ≠ some d := fun hd => by
        have := hanc _ (k1 e he h0 hd (Ne.symm hne))
        rw [h2'] at this; cases this
      refine .inr ⟨fun e3 he3 h3 hd3 hne3 => k1 e3 he3 ((set_false hi).1 h3).2 hd3 hne3, k2, ?_⟩
      rw [put_other _ _ hd]; exact VR.mono hx.le k3
  · obtain ⟨hne, h2'⟩ := (set_false hi).1 h2
    obtain ⟨k1, k2⟩ := I.obj e2 he2 h2' l ob hr
    refine ⟨?_, k2⟩
    cases hl : ρ' l with
    | none => rfl
    | some i =>
      rcases hnew l i hl with h3 | ⟨ob', h3⟩
      · rw [k1] at h3; cases h3
      · have := I.objs e2 he2 e he h2' h0 l ob ob' hr h3
        rw [this] at hne; exact absurd rfl hne
  · exact I.objs e2 he2 e3 he3 ((set_false hi).1 h2).2 ((set_false hi).1 h3).2

/-- The temporaries that an operation looks at are related once all that it hangs on has come. -/
theorem Inv.ttR (hp : PlanOK ops L) (I : Inv P ops L nt ρ0 w0 xs pend s X ρ a w) {e : PEnt} (he : e ∈ pend) (h0 : X.getD e.it.i false = false) (hready : ∀ j, Anc ops e.it.i j → X.getD j false = true) : TmpR ρ nt e.tt a.tmps := by
  refine ⟨I.sz, fun d u hu => ?_⟩
  rcases (I.tt e he h0 d u hu).2 with ⟨e', he', k1, k2, k3, k4⟩ | ⟨_, k2, k3⟩
  · have := hready _ ((hp.item _ (I.inL he)).anc _ k3)
    rw [k1] at this; cases this
  · exact ⟨k2, k3⟩
theorem Inv.ttX (hp : PlanOK ops L) (I : Inv P ops L nt ρ0 w0 xs pend s X ρ a w) {x : PIt} (hx : x ∈ xs) (hready : ∀ j, Anc ops x.i j → X.getD j false = true) : TmpR ρ nt (tmpsOf s.t x.looks .leaf) a.tmps := by
  refine ⟨I.sz, fun d u hu => ?_⟩
  rcases tmpsOf_get s.t x.looks .leaf d u hu with ⟨h1, h2⟩ | h1
  · rcases I.t d u h2 with ⟨e, he, k1, k2, k3⟩ | ⟨_, k2, k3⟩
    · have := hready _ ((hp.item _ (I.xInL hx)).anc _ ((I.rel hp he hx).d1 d k2 h1))
      rw [k1] at this; cases this
    · exact ⟨k2, k3⟩
  · simp at h1

theorem apure_notDefer {t : T AV} {op : Op} {v : AV} (h : apure P t op = some v) : ∀ c, op ≠ .defer c := by rintro c rfl; simp [apure] at h
theorem aread_notDefer {t : T AV} {h : Heap} {op : Op} {v : AV} (hv : aread P t h op = some v) : ∀ c, op ≠ .defer c := by rintro c rfl; simp [aread] at hv
theorem aalloc_notDefer {t : T AV} {op : Op} {v : AObj × (Pos → AV)} (hv : aalloc P t op = some v) : ∀ c, op ≠ .defer c := by rintro c rfl; simp [aalloc] at hv

theorem Inv.pendStep (hp : PlanOK ops L) (I : Inv P ops L nt ρ0 w0 xs pend s X ρ a w) {e : PEnt} (he : e ∈ pend) (h0 : X.getD e.it.i false = false) (hready : ∀ j, Anc ops e.it.i j → X.getD j false = true) (r : Option Nat)
    {K : Act → World → Prop} {Q : Exit → Act → World → Prop} (hK : ∀ ρ' a' w', Inv P ops L nt ρ0 w0 xs pend s (X.setIfInBounds e.it.i true) ρ' a' w' → K a' w') : wpOpIn (FW r) 0 P ops Q e.it.i K a w := by
  have hat := (hp.item _ (I.inL he)).at_
  have ht := I.ttR hp he h0 hready
  have hl := (I.lv e he h0).1
  unfold wpOpIn
  simp only [hat]
  unfold LV at hl
  split at hl
  · rename_i hr
    rcases hl with ⟨hg, hv⟩ | ⟨hg, hv⟩
    · rw [if_neg (by rw [aguard_sound ht hg]; simp)]
      exact ⟨fun _ _ => trivial, hK ρ _ w (I.done hp he h0 hready (Ext.refl _ _) I.h (by rw [hv]; exact VR_undef ρ) (fun l i h => .inl h))⟩
    · rw [if_pos (aguard_sound ht hg)]
      refine ⟨fun _ _ => trivial, ?_⟩
      rw [Oper.semAt_eq _ _ _ (apure_notDefer hv)]
      obtain ⟨c, hc, hrun⟩ := apure_sound ht hv
      rw [hrun w]
      exact hK ρ _ w (I.done hp he h0 hready (Ext.refl _ _) I.h hc (fun l i h => .inl h))
  · rename_i hr
    obtain ⟨hg, hv⟩ := hl
    rw [if_pos (aguard_sound ht hg)]
    refine ⟨fun _ _ => trivial, ?_⟩
    rw [Oper.semAt_eq _ _ _ (aread_notDefer hv)]
    obtain ⟨c, hc, hrun⟩ := aread_sound ht I.h hv
    rw [hrun]
    exact hK ρ _ w (I.done hp he h0 hready (Ext.refl _ _) I.h hc (fun l i h => .inl h))
  · rename_i l ob hr
    obtain ⟨hg, mk, hal, hv, hget, hlt⟩ := hl
    rw [if_pos (aguard_sound ht hg)]
    refine ⟨fun _ _ => trivial, ?_⟩
    rw [Oper.semAt_eq _ _ _ (aalloc_notDefer hal)]
    obtain ⟨k1, k2⟩ := I.obj e he h0 l ob hr
    obtain ⟨c, w', i, hrun, g1, g2, g3⟩ := aalloc_sound ht I.h hal l k1 hlt (by rw [I.ext.nn]; exact k2) hget
    rw [hrun]
    refine hK _ _ w' (I.done hp he h0 hready g2 g1 (by rw [hv]; exact g3) (fun l' j hj => ?_))
    by_cases e' : l' = l
    · subst e'; exact .inr ⟨ob, hr⟩
    · rw [Ren.upd_other ρ i e'] at hj; exact .inl hj

theorem Ren.le_at {ρ : Ren} (m : Nat) : ρ.le ⟨ρ.f, m⟩ := fun _ _ h => h
theorem Ren.at_le {ρ : Ren} (m : Nat) : Ren.le ⟨ρ.f, m⟩ ρ := fun _ _ h => h
theorem HR.at {ρ : Ren} {h : Heap} {w : World} (hh : HR ρ h w) (m : Nat) (hm : m ≤ h.next.toNat) : HR ⟨ρ.f, m⟩ h w :=
  ⟨fun l i hl => ⟨(hh.obj l i hl).1, fun o ho => OO.mono (Ren.le_at m) ((hh.obj l i hl).2 o ho)⟩, hh.inj, hh.fresh, hm⟩

/-- The operation whose turn it is, and that changes something. -/
theorem Inv.heavy (hp : PlanOK ops L) {x : PIt} (I : Inv P ops L nt ρ0 w0 (x :: xs) pend s X ρ a w) (hready : ∀ j, Anc ops x.i j → X.getD j false = true)
    {pend' : List PEnt} (hsub : ∀ e, e ∈ pend' → e ∈ pend) (hkeep : ∀ e ∈ pend, e ∈ pend' ∨ X.getD e.it.i false = true) (hnanc : ∀ e ∈ pend', X.getD e.it.i false = false → bit x.anc e.it.i = false)
    {h : Heap} {t : T AV} {ds : List ADef} {v : AV} (hput : aput nt s.t x.o.dst v = some t)
    {ρ' : Ren} {a' : Act} {w' : World} {c : Value} (hx : Ext ρ w ρ' w') (hh : HR ρ' h w') (hc : VR ρ' v c) (hta : a'.tmps = a.tmps) (hds : DR ρ' ds a'.defers)
    (hnew : ∀ l i, ρ' l = some i → ρ l = some i ∨ s.h.next.toNat ≤ l.toNat) (hlv : ∀ e ∈ pend', LV P ops s.h e → LV P ops h e) :
    Inv P ops L nt ρ0 w0 xs pend' ⟨t, ds, h⟩ (X.setIfInBounds x.i true) ρ' (a'.put x.o.dst c) w' := by
  have hxm : x ∈ x :: xs := List.mem_cons_self
  have hi : x.i < X.size := by
    rw [I.size]; exact (Array.getElem?_eq_some_iff.1 (hp.item _ (I.xInL hxm)).at_).1
  obtain ⟨g1, g2⟩ := aput_facts hput
  have hrel : ∀ {e : PEnt}, e ∈ pend → RelOK e.it x := fun he => I.rel hp he hxm
  obtain ⟨pre, hL, hpre⟩ := I.pre
  have hpost : ∀ y ∈ xs, x.i ≠ y.i := fun y hy => by
    have := hp.pw
    rw [hL, List.pairwise_append, List.pairwise_cons] at this
    exact (this.2.1.1 y hy).ne
  refine ⟨⟨pre ++ [x], by simp [hL], fun e he => List.mem_append_left _ (hpre e (hsub e he))⟩, by rw [Array.size_setIfInBounds]; exact I.size, fun i hi' => ?_, fun y hy => ?_, fun e he e' he' => I.uniq e (hsub e he) e' (hsub e' he'), fun i hi' j hj => ?_,
    I.ext.trans hx, hh, by rw [put_defers]; exact hds, by rw [put_size, hta]; exact I.sz, fun d u hu => ?_, fun e he h0 => ?_, fun e he h0 d u hu => ?_, fun e he h0 l ob hr => ?_, fun e he e' he' h0 h0' => ?_⟩
  · rcases I.cov i hi' with h1 | ⟨e, he, h1⟩ | ⟨y, hy, h1⟩
    · exact .inl ((set_true hi).2 (.inr h1))
    · rcases hkeep e he with h2 | h2
      · exact .inr (.inl ⟨e, h2, h1⟩)
      · exact .inl ((set_true hi).2 (.inr (h1 ▸ h2)))
    · rcases List.mem_cons.1 hy with rfl | hy
      · exact .inl ((set_true hi).2 (.inl h1.symm))
      · exact .inr (.inr ⟨y, hy, h1⟩)
  · exact (set_false hi).2 ⟨Ne.symm (hpost y hy), I.xsX y (List.mem_cons_of_mem _ hy)⟩
  · refine (set_true hi).2 (.inr ?_)
    rcases (set_true hi).1 hi' with rfl | h1
    · exact hready j hj
    · exact I.clo i h1 j hj
  · by_cases hd : x.o.dst = some d
    · obtain ⟨k1, k2⟩ := g1 d hd
      simp only at hu
      rw [k2] at hu
      simp only [Option.some.injEq] at hu; subst hu
      refine .inr ⟨fun e he h0 hd' => (hrel (hsub e he)).d2 d hd' hd, k1, ?_⟩
      rw [hd, put_same c (by rw [hta, I.sz]; exact k1)]; exact hc
    · simp only at hu
      rw [g2 d hd] at hu
      rcases I.t d u hu with ⟨e, he, k1, k2, k3⟩ | ⟨k1, k2, k3⟩
      · rcases hkeep e he with h2 | h2
        · exact .inl ⟨e, h2, (set_false hi).2 ⟨(hrel he).ne, k1⟩, k2, k3⟩
        · rw [k1] at h2; cases h2
      · refine .inr ⟨fun e he h0 => k1 e (hsub e he) ((set_false hi).1 h0).2, k2, ?_⟩
        rw [put_other _ _ hd, hta]; exact VR.mono hx.le k3
  · obtain ⟨h1, h2⟩ := I.lv e (hsub e he) ((set_false hi).1 h0).2
    exact ⟨hlv e he h1, h2⟩
  · have h0' := ((set_false hi).1 h0).2
    obtain ⟨h1, h2⟩ := I.tt e (hsub e he) h0' d u hu
    refine ⟨h1, ?_⟩
    rcases h2 with ⟨e', he', k1, k2⟩ | ⟨k1, k2, k3⟩
    · rcases hkeep e' he' with h2 | h2
      · exact .inl ⟨e', h2, (set_false hi).2 ⟨(hrel he').ne, k1⟩, k2⟩
      · rw [k1] at h2; cases h2
    · have hd : x.o.dst ≠ some d := fun hd => by
        have := (hrel (hsub e he)).d3 d hd h1
        rw [hnanc e he h0'] at this; cases this
      refine .inr ⟨fun e' he' h0'' hd' hne => k1 e' (hsub e' he') ((set_false hi).1 h0'').2 hd' hne, k2, ?_⟩
      rw [put_other _ _ hd, hta]; exact VR.mono hx.le k3
  · have h0' := ((set_false hi).1 h0).2
    obtain ⟨k1, k2⟩ := I.obj e (hsub e he) h0' l ob hr
    refine ⟨?_, k2⟩
    cases hl : ρ' l with
    | none => rfl
    | some i =>
      rcases hnew l i hl with h3 | h3
      · rw [k1] at h3; cases h3
      · have := (I.lv e (hsub e he) h0').1
        unfold LV at this
        rw [hr] at this
        obtain ⟨_, mk, _, _, _, h5⟩ := this
        omega
  · exact I.objs e (hsub e he) e' (hsub e' he') ((set_false hi).1 h0).2 ((set_false hi).1 h0').2

theorem Inv.heavyStep {sf : Self} (hs : SelfOK P sf) (hp : PlanOK ops L) {x : PIt} (hxv : x.hv = true) (I : Inv P ops L nt ρ0 w0 (x :: xs) pend s X ρ a w) (hready : ∀ j, Anc ops x.i j → X.getD j false = true) {rd : Option Pos} {r : Option Nat} (hrd : RdR ρ0 rd r)
    {y : AEx} {s' : ASt} (hv : drun P sf rd nt ops (x :: xs) pend s = some (y, s')) {K : Act → World → Prop}
    (hK : ∀ pend' s1 ρ' a' w', Inv P ops L nt ρ0 w0 xs pend' s1 (X.setIfInBounds x.i true) ρ' a' w' → drun P sf rd nt ops xs pend' s1 = some (y, s') → K a' w') : wpOpIn (FW r) 0 P ops (CodePost ρ0 w0 nt y s') x.i K a w := by
  have hxm : x ∈ x :: xs := List.mem_cons_self
  have hat := (hp.item _ (I.xInL hxm)).at_
  have ht := I.ttX hp hxm hready
  have hxanc : ∀ j, bit x.anc j = true → X.getD j false = true := fun j hj => hready j ((hp.item _ (I.xInL hxm)).anc j hj)
  have hn0 : ∀ e ∈ pend, X.getD e.it.i false = false → bit x.anc e.it.i = false := fun e he h0 => by
    cases hb : bit x.anc e.it.i with
    | false => rfl
    | true => have := hxanc _ hb; rw [h0] at this; cases this
  simp only [drun, hxv] at hv
  rw [T.forceK_eq] at hv
  unfold wpOpIn
  simp only [hat]
  split at hv
  · cases hv
  · rename_i hg
    split at hv
    · rename_i t hput
      rw [if_neg (by rw [aguard_sound ht hg]; simp)]
      exact ⟨fun _ _ => trivial, hK pend _ ρ _ w (I.heavy hp hready (fun _ h => h) (fun _ h => .inl h) hn0 hput (Ext.refl _ _) I.h (VR_undef ρ) rfl I.ds (fun l i h => .inl h) (fun _ _ h => h)) hv⟩
    · cases hv
  · rename_i hg
    rw [if_pos (aguard_sound ht hg)]
    -- the places that nobody knows yet stay so
    have hlow := I.h.at s.h.next.toNat (Nat.le_refl _)
    have low : ∀ {ρ1 : Ren} {w1 : World}, Ext ⟨ρ.f, s.h.next.toNat⟩ w ρ1 w1 → Ext ρ w ⟨ρ1.f, ρ.n⟩ w1 ∧ ∀ l i, ρ1 l = some i → ρ l = some i ∨ s.h.next.toNat ≤ l.toNat := fun {ρ1 w1} hx =>
      ⟨⟨hx.le, hx.img, hx.size, hx.keep, hx.os, hx.output, hx.tape, rfl, fun l i hl => by
        rcases hx.new l i hl with h0 | h0
        · exact .inl h0
        · exact .inr (Nat.le_trans I.h.low h0)⟩, hx.new⟩
    split at hv
    · rename_i v h1 hop
      split at hv
      · rename_i hrc
        split at hv
        · rename_i t hput
          refine aop_sound hs hop (ht.mono (Ren.le_at s.h.next.toNat)) hlow r (fun ρ1 c w1 hx hr hvr => ?_)
          obtain ⟨hx', hnew⟩ := low hx
          have hn1 : s.h.next.toNat ≤ h1.next.toNat := by have := hr.low; rw [hx.nn] at this; exact this
          refine hK (keepE x.anc pend) _ ⟨ρ1.f, ρ.n⟩ _ w1 (I.heavy hp hready (fun e he => (keepE_mem.1 he).1) (fun e he => ?_) (fun e he h0 => (keepE_mem.1 he).2) hput hx' (hr.at _ (Nat.le_trans I.h.low hn1)) (VR.mono (Ren.le_at _) hvr) rfl (I.ds.mono hx'.le) hnew (fun e he => recheck_sound hn1 hrc e he)) hv
          cases hb : bit x.anc e.it.i with
          | false => exact .inl (keepE_mem.2 ⟨he, hb⟩)
          | true => exact .inr (hxanc _ hb)
        · cases hv
      · cases hv
    · rename_i v h1 hop
      split at hv
      · rename_i hnil
        simp only [Option.some.injEq, Prod.mk.injEq] at hv
        obtain ⟨rfl, rfl⟩ := hv
        refine aop_sound hs hop (ht.mono (Ren.le_at s.h.next.toNat)) hlow r (fun ρ1 c w1 hx hr hvr => ?_)
        obtain ⟨hx', hnew⟩ := low hx
        have hn1 : s.h.next.toNat ≤ h1.next.toNat := by have := hr.low; rw [hx.nn] at this; exact this
        refine ⟨⟨ρ1.f, ρ.n⟩, I.ext.trans hx', ⟨⟨I.sz, fun d u hu => ?_⟩, I.ds.mono hx'.le, hr.at _ (Nat.le_trans I.h.low hn1)⟩, c, VR.mono (Ren.le_at _) hvr, rfl⟩
        rcases I.t d u hu with ⟨e, he, k1, k2, k3⟩ | ⟨k1, k2, k3⟩
        · have : e ∈ keepE x.anc pend := keepE_mem.2 ⟨he, hn0 e he k1⟩
          rw [hnil] at this; cases this
        · exact ⟨k2, VR.mono hx'.le k3⟩
      · cases hv
    · split at hv
      · rename_i d hd
        have hr : r = none := hrd
        subst hr
        split at hv
        · rename_i t hput
          refine adefer_sound hd ht (fun D hD => ?_)
          refine hK pend _ ρ _ w (I.heavy (a' := { a with defers := D :: a.defers }) hp hready (fun _ h => h) (fun _ h => .inl h) hn0 hput (Ext.refl _ _) I.h (VR_undef ρ) rfl ?_ (fun l i h => .inl h) (fun _ _ h => h)) hv
          cases d with
          | mark l => obtain ⟨i, ds', e1, e2, e3⟩ := hD; cases e1; exact ⟨i, _, rfl, e2, I.ds⟩
          | fn f caps args => obtain ⟨cc, ca, ds', e1, e2, e3, e4⟩ := hD; cases e1; exact ⟨cc, ca, _, rfl, e2, e3, I.ds⟩
        · cases hv
      · cases hv

/-- Past all that may come later. -/
theorem Inv.norm (hp : PlanOK ops L) {sf : Self} {rd : Option Pos} {y : AEx} {s' : ASt} : ∀ {xs : List PIt} {pend : List PEnt} {s : ASt}, Inv P ops L nt ρ0 w0 xs pend s X ρ a w → drun P sf rd nt ops xs pend s = some (y, s') →
    ∃ xs1 pend1 s1, Inv P ops L nt ρ0 w0 xs1 pend1 s1 X ρ a w ∧ drun P sf rd nt ops xs1 pend1 s1 = some (y, s') ∧ (xs1 = [] ∨ ∃ x xs2, xs1 = x :: xs2 ∧ x.hv = true)
  | [], pend, s, I, hv => ⟨[], pend, s, I, hv, .inl rfl⟩
  | x :: xs, pend, s, I, hv => by
    cases hx : x.hv with
    | true => exact ⟨_, _, _, I, hv, .inr ⟨x, xs, rfl, hx⟩⟩
    | false =>
      simp only [drun, hx] at hv
      rw [T.forceK_eq] at hv
      split at hv
      · rename_i v r h hal
        split at hv
        · rename_i t hput
          exact Inv.norm hp (I.light hp hal hput) hv
        · cases hv
      · cases hv

def unl (X : Array Bool) : Nat → Nat
  | 0 => 0
  | n + 1 => unl X n + (match X.getD n false with | true => 0 | false => 1)
theorem unl_set {X : Array Bool} {i : Nat} (hi : i < X.size) (h0 : X.getD i false = false) : ∀ {n : Nat}, (i < n → unl (X.setIfInBounds i true) n + 1 ≤ unl X n) ∧ unl (X.setIfInBounds i true) n ≤ unl X n
  | 0 => ⟨fun h => by omega, Nat.le_refl _⟩
  | n + 1 => by
    obtain ⟨h1, h2⟩ := unl_set hi h0 (n := n)
    simp only [unl]
    by_cases e : n = i
    · subst e
      rw [(set_true hi).2 (.inl rfl), h0]
      exact ⟨fun _ => by simp only; omega, by simp only; omega⟩
    · have : (X.setIfInBounds i true).getD n false = X.getD n false := by
        cases hb : X.getD n false with
        | true => exact (set_true hi).2 (.inr hb)
        | false => exact (set_false hi).2 ⟨e, hb⟩
      rw [this]
      exact ⟨fun hlt => by have := h1 (by omega); omega, by omega⟩

theorem ready_all (hp : PlanOK ops L) (hX : X.size = ops.size) (hr : Region.ready .any ops X = []) : ∀ i, i < ops.size → X.getD i false = true := by
  intro i
  induction i using Nat.strongRecOn with
  | _ i ih =>
    intro hi
    obtain ⟨x, hx, rfl⟩ := hp.cov i hi
    have hit := hp.item x hx
    cases hb : X.getD x.i false with
    | true => rfl
    | false =>
      have : x.i ∈ Region.ready .any ops X := by
        rw [mem_ready]
        refine ⟨?_, x.o, hit.at_, fun e he hbd => ih _ (hit.back e he hbd) (Nat.lt_trans (hit.back e he hbd) hi)⟩
        simp only [Array.getD_eq_getD_getElem?] at hb ⊢
        rw [Array.getElem?_eq_getElem (by omega)] at hb ⊢
        exact hb
      rw [hr] at this; cases this

theorem draw_any {sf : Self} (hs : SelfOK P sf) (hp : PlanOK ops L) {rd : Option Pos} {r : Option Nat} (hrd : RdR ρ0 rd r) {y : AEx} {s' : ASt} : ∀ (fuel : Nat) {xs : List PIt} {pend : List PEnt} {s : ASt} {X : Array Bool} {ρ : Ren} {a : Act} {w : World},
    Inv P ops L nt ρ0 w0 xs pend s X ρ a w → drun P sf rd nt ops xs pend s = some (y, s') → unl X ops.size ≤ fuel → wpAnyIn (FW r) 0 P .any ops (CodePost ρ0 w0 nt y s') fuel X a w := by
  intro fuel
  have fin : ∀ {xs : List PIt} {pend : List PEnt} {s : ASt} {X : Array Bool} {ρ : Ren} {a : Act} {w : World}, Inv P ops L nt ρ0 w0 xs pend s X ρ a w → drun P sf rd nt ops xs pend s = some (y, s') → Region.ready .any ops X = [] → CodePost ρ0 w0 nt y s' .normal a w := by
    intro xs pend s X ρ a w I hv hr
    have hall := ready_all hp I.size hr
    have hin : ∀ {x : PIt}, x ∈ L → X.getD x.i false = true := fun hx => hall _ (Array.getElem?_eq_some_iff.1 (hp.item _ hx).at_).1
    cases xs with
    | cons x xs =>
      have := I.xsX x List.mem_cons_self
      rw [hin (I.xInL List.mem_cons_self)] at this; cases this
    | nil =>
      simp only [drun, Option.some.injEq, Prod.mk.injEq] at hv
      obtain ⟨rfl, rfl⟩ := hv
      refine ⟨ρ, I.ext, ⟨⟨I.sz, fun d u hu => ?_⟩, I.ds, I.h⟩, rfl⟩
      rcases I.t d u hu with ⟨e, he, k1, _⟩ | ⟨_, k2, k3⟩
      · rw [hin (I.inL he)] at k1; cases k1
      · exact ⟨k2, k3⟩
  induction fuel with
  | zero =>
    intro xs pend s X ρ a w I hv hf
    have hr : Region.ready .any ops X = [] := by
      rw [List.eq_nil_iff_forall_not_mem]
      intro i hi
      obtain ⟨h1, o, h2, h3⟩ := mem_ready.1 hi
      have hlt : i < ops.size := (Array.getElem?_eq_some_iff.1 h2).1
      have h0 : X.getD i false = false := by
        simp only [Array.getD_eq_getD_getElem?] at h1 ⊢
        rw [Array.getElem?_eq_getElem (by rw [I.size]; exact hlt)] at h1 ⊢
        exact h1
      have := (unl_set (by rw [I.size]; exact hlt) h0 (n := ops.size)).1 hlt
      omega
    exact ⟨hr, fin I hv hr⟩
  | succ fuel ih =>
    intro xs pend s X ρ a w I hv hf
    refine ⟨fun hr => fin I hv hr, fun i hi => ?_⟩
    obtain ⟨h1, o, h2, h3⟩ := mem_ready.1 hi
    have hlt : i < ops.size := (Array.getElem?_eq_some_iff.1 h2).1
    have hsz : i < X.size := by rw [I.size]; exact hlt
    have h0 : X.getD i false = false := by
      simp only [Array.getD_eq_getD_getElem?] at h1 ⊢
      rw [Array.getElem?_eq_getElem hsz] at h1 ⊢
      exact h1
    have hready : ∀ j, Anc ops i j → X.getD j false = true := by
      intro j hj
      cases hj with
      | edge k1 k2 k3 => rw [h2] at k1; cases k1; exact h3 _ k2 k3
      | step k1 k2 k3 k4 => rw [h2] at k1; cases k1; exact I.clo _ (h3 _ k2 k3) j k4
    have hf' : unl (X.setIfInBounds i true) ops.size ≤ fuel := by
      have := (unl_set hsz h0 (n := ops.size)).1 hlt
      omega
    obtain ⟨xs1, pend1, s1, I1, hv1, hhead⟩ := I.norm hp hv
    rcases I1.cov i hlt with h4 | ⟨e, he, h4⟩ | ⟨x, hx, h4⟩
    · rw [h0] at h4; cases h4
    · subst h4
      exact I1.pendStep hp he h0 hready r (fun ρ' a' w' I' => ih I' hv1 hf')
    · subst h4
      rcases hhead with rfl | ⟨z, zs, rfl, hzv⟩
      · cases hx
      · have hzx : z = x := by
          rcases List.mem_cons.1 hx with rfl | hx'
          · rfl
          · have hpw := hp.pw
            obtain ⟨pre, hL, hpre⟩ := I1.pre
            rw [hL, List.pairwise_append, List.pairwise_cons] at hpw
            have hb := (hpw.2.1.1 x hx').hv hzv
            have := hready _ ((hp.item _ (I1.xInL hx)).anc _ hb)
            rw [I1.xsX z List.mem_cons_self] at this; cases this
        subst hzx
        exact I1.heavyStep hs hp hzv hready hrd hv1 (fun pend' s2 ρ' a' w' I' hv2 => ih I' hv2 hf')
end

theorem getD_replicate_false (n i : Nat) : (Array.replicate n false).getD i false = false := by
  simp only [Array.getD_eq_getD_getElem?]
  by_cases h : i < n
  · simp [h]
  · rw [Array.getElem?_eq_none (by simp; omega)]; rfl
theorem unl_replicate (n : Nat) : ∀ m, unl (Array.replicate n false) m ≤ m
  | 0 => Nat.le_refl _
  | m + 1 => by simp only [unl, getD_replicate_false]; have := unl_replicate n m; omega

theorem adraw_ok (hm : P.follows .mixedOrders = true) : DrawsOK P (adraw P) := by
  intro sf hs rd nt ops s x s' id hv ρ a w r hrd hsr
  unfold adraw at hv
  split at hv
  · rename_i L hL
    have hp := plan_sound hL
    refine wpIn_region_any hm (draw_any (w0 := w) hs hp hrd ops.size (xs := L) (pend := []) (s := s) (ρ := ρ) ?_ hv (unl_replicate _ _))
    have heq : ({ w with drawn := w.drawn + 1 } : World).heap = w.heap := rfl
    have no : ∀ {Q : PEnt → Prop}, ∀ e ∈ ([] : List PEnt), Q e := fun e he => nomatch he
    exact ⟨⟨[], rfl, no⟩, by simp, fun i hi => .inr (.inr (hp.cov i hi)), fun x _ => getD_replicate_false _ _, no, fun i hi => (by rw [getD_replicate_false] at hi; cases hi),
      Ext.same heq rfl rfl rfl, hsr.h.same heq, hsr.ds, hsr.t.1, fun d u hu => .inr ⟨no, hsr.t.2 d u hu⟩, no, no, no, no⟩
  · cases hv

end Go.Rh

/- An evaluator that reads, unfolded over a program's text, as a plain function. -/
namespace Go.Rh
noncomputable section

/-- 'and then'. -/
def ob {α β : Type} (x : Option α) (k : α → Option β) : Option β := Option.rec (motive := fun _ => Option β) none k x
@[simp] theorem ob_some {α β : Type} (a : α) (k : α → Option β) : ob (some a) k = k a := rfl
@[simp] theorem ob_none {α β : Type} (k : α → Option β) : ob none k = none := rfl
theorem ob_eq {α β : Type} {x : Option α} {k : α → Option β} {b : β} (h : ob x k = some b) : ∃ a, x = some a ∧ k a = some b := by
  cases x with
  | none => cases h
  | some a => exact ⟨a, rfl, h⟩

/-- 'and then', unfolded ahead of all else: for what is known. -/
abbrev oa {α β : Type} (x : Option α) (k : α → Option β) : Option β := match x with | some a => k a | none => none
theorem oa_eq {α β : Type} {x : Option α} {k : α → Option β} {b : β} (h : oa x k = some b) : ∃ a, x = some a ∧ k a = some b := by
  cases x with
  | none => cases h
  | some a => exact ⟨a, rfl, h⟩

/-- What a piece of code comes to: which of its ends, the temporaries that are looked at behind it. -/
structure J where
  i : Nat
  vs : List AV
  ds : List ADef
  h : Heap

inductive Kd where
  | norm | exit (id : Nat) | ret | pan

/-- Hints: where ways meet, and which temporaries are looked at behind. -/
inductive Hn where
  | n
  | seq (a b : Hn)
  | dup (a b : Hn)
  | join (X : List (Kd × List Nat)) (a : Hn)
  | loop (L : List Nat) (X : List (Kd × List Nat)) (a : Hn)
  | one (a : Hn)

/-! ### Operations over values -/

def kpick (c a b : AV) : Option AV := match c with | .bool true => some a | .bool false => some b | _ => none
def knil (x : AV) : Option AV := match x with | .ptr l o => some (.ptr l o) | .func f cs => some (.func f cs) | _ => none
def kbinI (op : BinOp) (x y : AV) : Option AV :=
  match x, y with
  | .int k a, .int k' b =>
    match op with
    | .shl => match ishift .shl k a b with | some r => some (fI r (.int k)) | none => none
    | .shr => match ishift .shr k a b with | some r => some (fI r (.int k)) | none => none
    | op => match decide (k = k') with | true => iarith op k a b | false => none
  | _, _ => none
def kbinS (op : BinOp) (x y : AV) : Option AV := match x, y with | .str n v, .str m u => sbin op n v m u | _, _ => none
def kbinO (P : Program) (op : BinOp) (t : TypeId) (c : Bool) (x y : AV) : Option AV := match c with
  | true => abin P op t (.const .nilIface) (.const .nilIface) x y
  | false => abin P op t (.func 0) (.func 0) x y
def kconvI (k : IntKind) (x : AV) : Option AV := match x with | .int _ n => some (fI (awrap k n) (.int k)) | _ => none
def kconvS (x : AV) : Option AV := match x with | .str n v => some (.str n v) | _ => none
def kbytes (h : Heap) (x : AV) : Option AV :=
  match x with
  | .nilslice => some (.str 0 0)
  | .slice l off n _ _ => match aloadN h l off n with
    | some vs => match bytesN vs with | some v => some (fN n fun n => fN v fun v => .str n v) | none => none
    | none => none
  | _ => none
def kfa (o : Nat) (x : AV) : Option AV := match x with | .ptr l off => some (fN (off + o) fun o => .ptr l o) | _ => none
def kpart (ag : Bool) (o n : Nat) (vs : List AV) : Option AV := match ag with
  | true => (match takeN n (vs.drop o) with | some vs => some (.agg vs) | none => none)
  | false => vs[o]?
def kfield (ag : Bool) (o n : Nat) (x : AV) : Option AV := match x with | .agg vs => kpart ag o n vs | _ => none
def kia (s : Nat) (x i : AV) : Option AV := match i with
  | .int _ (.ofNat n) => match x with
    | .slice l off len _ es => match Nat.blt n len with
      | true => match Nat.beq s es with | true => some (fN (off + n * s) fun o => .ptr l o) | false => none
      | false => none
    | _ => none
  | _ => none
def kiaA (len s : Nat) (x i : AV) : Option AV := match i with
  | .int _ (.ofNat n) => match x with
    | .ptr l off => match Nat.blt n len with | true => some (fN (off + n * s) fun o => .ptr l o) | false => none
    | _ => none
  | _ => none
def kixS (x i : AV) : Option AV := match i with
  | .int _ (.ofNat n) => match x with
    | .str m u => match Nat.blt n m with | true => some (fN (u / 256 ^ n % 256) fun b => .int .u8 (.ofNat b)) | false => none
    | _ => none
  | _ => none
def kixA (len : Nat) (ag : Bool) (s : Nat) (x i : AV) : Option AV := match i with
  | .int _ (.ofNat n) => match x with
    | .agg vs => match Nat.blt n len with | true => kpart ag (n * s) s vs | false => none
    | _ => none
  | _ => none
def klenS (x : AV) : Option AV := match x with | .str n _ => some (.int .i64 (.ofNat n)) | _ => none
def klenL (x : AV) : Option AV := match x with | .slice _ _ n _ _ => some (.int .i64 (.ofNat n)) | .nilslice => some (.int .i64 (.ofNat 0)) | .eslice => some (.int .i64 (.ofNat 0)) | _ => none
def klenM (h : Heap) (x : AV) : Option AV := match x with
  | .nilmap => some (.int .i64 (.ofNat 0))
  | .map l => match akv h (.map l) with | some kv => some (fN kv.length fun n => .int .i64 (.ofNat n)) | none => none
  | _ => none
def kload (h : Heap) (x : AV) : Option AV := match x with | .ptr l off => aload h l off | _ => none
def kloadN (n : Nat) (h : Heap) (x : AV) : Option AV := match x with | .ptr l off => (match aloadN h l off n with | some vs => some (.agg vs) | none => none) | _ => none
def kstore (n : Nat) (x v : AV) (h : Heap) : Option Heap := match x with
  | .ptr l off => match Nat.beq v.cells.length n, notTuple v with | true, true => astoreN h l off v.cells | _, _ => none
  | _ => none
/-- A string's bytes. -/
def kstrB (x : AV) : Option (List AV × Nat) := match x with | .str n v => (match Nat.blt n 9223372036854775808 with | true => some (bytesOf n v, n) | false => none) | _ => none
def knt {β : Type} (v : AV) (k : Option β) : Option β := match notTuple v with | true => k | false => none
def kds {β : Type} (ds : List ADef) (k : Option β) : Option β := match ds with | [] => k | _ :: _ => none
/-- 'if' over a value. -/
def kif {β : Type} (c : AV) (a b : Option β) : Option β := match c with | .bool true => a | .bool false => b | _ => none
/-- A guarded operation's value. -/
def kgv (want : Bool) (g : AV) (x : Option AV) : Option AV := match g with
  | .bool b => match (match want with | true => b | false => !b) with | true => x | false => some (.tuple [])
  | .tuple _ => some (.tuple [])
  | _ => none
def kgc (want : Bool) (g : AV) (h : Heap) (x : Option (Bool × AV × Heap)) : Option (Bool × AV × Heap) := match g with
  | .bool b => match (match want with | true => b | false => !b) with | true => x | false => some (false, .tuple [], h)
  | .tuple _ => some (false, .tuple [], h)
  | _ => none
/-- What a call came to: a value, or a panic. -/
def kres {β : Type} (r : Bool × AV × Heap) (k : AV → Heap → Option β) (p : AV → Heap → Option β) : Option β := match r.1 with | false => k r.2.1 r.2.2 | true => p r.2.1 r.2.2
def kpan {β : Type} (x : AV) (p : AV → Option β) : Option β := match x with | .iface t v => p (.iface t v) | _ => none
def kfree {β : Type} (h : Heap) (k : Option β) : Option β := match T.get h.next h.m with | none => k | some _ => none

/-! ### The evaluator -/

/-- A value that is there at once; one that has to be worked out. -/
inductive DX where
  | at (x : Option AV)
  | op (x : Option AV)
abbrev DX.x : DX → Option AV
  | .at x => x
  | .op x => x

structure DE where
  P : Program
  nt : Nat
  σ : FuncId → List AV → Heap → Option (Bool × AV × Heap)
  dyn : AV → List AV → Heap → Option (Bool × AV × Heap)

section
variable (P : Program)

def dconv (t : T AV) (h : Heap) (s d : TypeId) (x : Operand) : Option DX :=
  match P.underlying s, P.underlying d with
  | some _, some (.int k) => some (.op <| oa (aopd t x) fun u => kconvI k u)
  | some .string, some .string => some (.op <| oa (aopd t x) fun u => kconvS u)
  | some (.slice e), some .string => match P.underlying e with | some (.int .u8) => some (.op <| oa (aopd t x) fun u => kbytes h u) | _ => none
  | _, _ => none
def dslice (t : T AV) (h : Heap) (ty : TypeId) (x : Operand) (lo hi mx : Option Operand) : Option DX :=
  match P.underlying ty with
  | some (.array _ _) => some (.op <| oa (aopd t x) fun u => oa (aopdO t lo) fun a => oa (aopdO t hi) fun b => oa (aopdO t mx) fun c => asliceA P h ty u a b c)
  | some _ => some (.op <| oa (aopd t x) fun u => oa (aopdO t lo) fun a => oa (aopdO t hi) fun b => oa (aopdO t mx) fun c => aslice P ty u a b c)
  | none => none
def dfieldAddr (t : T AV) (ty : TypeId) (x : Operand) (f : Nat) : Option DX :=
  match P.underlying ty with
  | some (.struct fs) => match fs.toList[f]? with
    | some fd => match szT P fd.type with | some (_ + 1) => some (.op <| oa (aopd t x) fun u => kfa fd.offset u) | _ => none
    | none => none
  | _ => none
def dfield (t : T AV) (ty : TypeId) (x : Operand) (f : Nat) : Option DX :=
  match P.underlying ty with
  | some (.struct fs) => match fs.toList[f]? with
    | some fd => match aggT P fd.type with
      | some true => match szT P fd.type with | some n => some (.op <| oa (aopd t x) fun u => kfield true fd.offset n u) | none => none
      | some false => some (.op <| oa (aopd t x) fun u => kfield false fd.offset 1 u)
      | none => none
    | none => none
  | _ => none
def dindexAddr (t : T AV) (ty : TypeId) (x i : Operand) : Option DX :=
  match P.underlying ty with
  | some (.array len e) => match szT P e with | some s => some (.op <| oa (aopd t x) fun u => oa (aopd t i) fun v => kiaA len s u v) | none => none
  | some (.slice e) => match szT P e with | some s => some (.op <| oa (aopd t x) fun u => oa (aopd t i) fun v => kia s u v) | none => none
  | _ => none
def dindex (t : T AV) (ty : TypeId) (x i : Operand) : Option DX :=
  match P.underlying ty with
  | some .string => some (.op <| oa (aopd t x) fun u => oa (aopd t i) fun v => kixS u v)
  | some (.array len e) => match szT P e, aggT P e with
    | some s, some ag => some (.op <| oa (aopd t x) fun u => oa (aopd t i) fun v => kixA len ag s u v)
    | _, _ => none
  | _ => none
def dlen (t : T AV) (h : Heap) (ty : TypeId) (x : Operand) : Option DX :=
  match P.underlying ty with
  | some .string => some (.op <| oa (aopd t x) fun u => klenS u)
  | some (.slice _) => some (.op <| oa (aopd t x) fun u => klenL u)
  | some (.array n _) => some (.at <| oa (aopd t x) fun _ => some (.int .i64 (.ofNat n)))
  | some (.map _ _) => some (.op <| oa (aopd t x) fun u => klenM h u)
  | _ => none

/-- Operations that only give a value: what it is. 'none': it is none of these. -/
def dval (t : T AV) (h : Heap) (op : Op) : Option DX :=
  match op with
  | .move x => some (.at (aopd t x))
  | .assign x => some (.at (aopd t x))
  | .pick c a b => some (.op <| oa (aopd t c) fun c => oa (aopd t a) fun a => oa (aopd t b) fun b => kpick c a b)
  | .nilCheck x => some (.op <| oa (aopd t x) fun u => knil u)
  | .binOp op ty x y _ => match P.underlying ty with
    | some (.int _) => some (.op <| oa (aopd t x) fun u => oa (aopd t y) fun v => kbinI op u v)
    | some .string => some (.op <| oa (aopd t x) fun u => oa (aopd t y) fun v => kbinS op u v)
    | some _ => some (.op <| oa (aopd t x) fun u => oa (aopd t y) fun v => kbinO P op ty (isC x || isC y) u v)
    | none => none
  | .unOp op _ x => some (.op <| oa (aopd t x) fun u => aun op u)
  | .convert s d x => dconv P t h s d x
  | .makeInterface ty x => match P.concrete ty with | true => some (.at <| oa (aopd t x) fun u => some (.iface ty u)) | false => none
  | .makeFunc (.func f) first caps => match first.toList with
    | [] => some (.at <| oa (aopds t caps.toList) fun vs => some (.func f vs))
    | b :: bs => match caps.toList with | [] => some (.at <| oa (aopds t (b :: bs)) fun vs => some (.bfunc f vs)) | _ => none
  | .slice ty x lo hi mx => dslice P t h ty x lo hi mx
  | .fieldAddr ty x f => dfieldAddr P t ty x f
  | .field ty x f => dfield P t ty x f
  | .indexAddr ty x i => dindexAddr P t ty x i
  | .index ty x i => dindex P t ty x i
  | .extract x i => some (.op <| oa (aopd t x) fun u => aextract u i)
  | .build ty ps => some (.op <| oa (aparts t ps.toList) fun vs => abuild P ty vs)
  | .typeAssert x _ ty false => some (.op <| oa (aopd t x) fun u => aassert P u ty)
  | .load ty x => match aggT P ty with
    | some true => match szT P ty with | some n => some (.op <| oa (aopd t x) fun u => kloadN n h u) | none => none
    | some false => some (.op <| oa (aopd t x) fun u => kload h u)
    | none => none
  | .lookup ty m k ok => some (.op <| oa (aopd t m) fun m => oa (aopd t k) fun k => alookup P h ty m k ok)
  | .call c => match c.callee, c.args.toList, c.argTypes.toList with
    | .builtin .len, [x], [ty] => dlen P t h ty x
    | .builtin .max, xs, _ => some (.op <| oa (aopds t xs) fun vs => amaxs true vs)
    | .builtin .min, xs, _ => some (.op <| oa (aopds t xs) fun vs => amaxs false vs)
    | _, _, _ => none
  | _ => none
end

section
variable (E : DE)

/-- A call of a Go function. 'none': it is none. -/
def dcall (t : T AV) (h : Heap) (op : Op) : Option (Option (Bool × AV × Heap)) :=
  match op with
  | .call c => match c.callee with
    | .value (.func g) => some (oa (aopds t c.args.toList) fun vs => E.σ g vs h)
    | .value f => some (oa (aopd t f) fun fv => oa (aopds t c.args.toList) fun vs => E.dyn fv vs h)
    | _ => none
  | _ => none

/-- Operations that make or write memory. -/
def deff {β : Type} (t : T AV) (h : Heap) (op : Op) (K : AV → Heap → Option β) : Option β :=
  match op with
  | .store ty x y => match szT E.P ty with
    | some n => oa (aopd t x) fun u => oa (aopd t y) fun v => ob (kstore n u v h) fun h' => K (.tuple []) h'
    | none => none
  | .mapUpdate ty m k v => oa (aopd t m) fun m => oa (aopd t k) fun k => oa (aopd t v) fun v => ob (amapSet E.P h ty m k v) fun h' => K (.tuple []) h'
  | .insert ty m k v => oa (aopd t m) fun m => oa (aopd t k) fun k => oa (aopd t v) fun v => ob (amapSet E.P h ty m k v) fun h' => K (.tuple []) h'
  | .alloc e => match azero E.P e with
    | some zs => h.pushK (.cells zs true e) fun h' => K (.ptr h.next 0) h'
    | none => none
  | .box e x => oa (aopd t x) fun v => knt v (h.pushK (.cells v.cells true e) fun h' => K (.ptr h.next 0) h')
  | .buildSlice ty n ps => oa (aparts t ps.toList) fun vs => ob (abuildSlice E.P ty n vs) fun r => h.pushK (.cells r.1 true r.2.2) fun h' => K (.slice h.next 0 n n r.2.1) h'
  | .makeMap _ none => h.pushK (.map [] [] 0) fun h' => K (.map h.next) h'
  | .makeSlice ty x y => oa (aopd t x) fun u => oa (aopd t y) fun v => ob (amakeSlice E.P ty u v) fun r => h.pushK (.cells r.1 true r.2.2.2.2) fun h' => K (.slice h.next 0 r.2.1 r.2.2.1 r.2.2.2.1) h'
  | .convert s d x => match E.P.underlying s, E.P.underlying d with
    | some .string, some (.slice e) => match E.P.underlying e with
      | some (.int .u8) => oa (aopd t x) fun u => ob (kstrB u) fun r => h.pushK (.cells r.1 false e) fun h' => K (.slice h.next 0 r.2 r.2 1) h'
      | _ => none
    | _, _ => none
  | .call c => match c.callee, c.args.toList, c.argTypes.toList with
    | .builtin .append, [x, y], [tx, ty] => oa (aopd t x) fun u => oa (aopd t y) fun v => ob (aappend E.P h tx ty u v) fun r => K r.1 r.2
    | .builtin .copy, [x, y], [tx, _] => oa (aopd t x) fun u => oa (aopd t y) fun v => ob (acopy E.P h tx u v) fun r => K r.1 r.2
    | .builtin .delete, [x, y], [tx, _] => oa (aopd t x) fun u => oa (aopd t y) fun v => ob (amapDel E.P h tx u v) fun h' => K (.tuple []) h'
    | .builtin .clear, [x], [tx] => oa (aopd t x) fun u => ob (aclear E.P h tx u) fun h' => K (.tuple []) h'
    | .builtin .unsafeSliceData, [x], _ => oa (aopd t x) fun u => ob (ausd u) fun v => K v h
    | .builtin .unsafeString, [x, y], [tx, _] => oa (aopd t x) fun u => oa (aopd t y) fun v => ob (austr E.P h tx u v) fun r => K r.1 r.2
    | _, _, _ => none
  | .range ty x => oa (aopd t x) fun m => ob (arangeM E.P h ty m) fun r => K r.1 r.2
  | .next it s => oa (aopd t it) fun u => ob (anext h u s) fun r => K r.1 r.2
  | .entry it => oa (aopd t it) fun u => ob (aentry h u) fun v => K v h
  | _ => none

/-- One operation; 'tt': what it looks at. -/
def dop {β : Type} (ops : Array Oper) (tt : T AV) (s : ASt) (o : Oper) (K : AEx → ASt → Option β) : Option β :=
  let put : AV → Heap → Option β := fun v h => match aput E.nt s.t o.dst v with | some t => K .norm ⟨t, s.ds, h⟩ | none => none
  match o.guard with
  | none => match dval E.P tt s.h o.op with
    | some (.at x) => oa x fun v => put v s.h
    | some (.op x) => ob x fun v => put v s.h
    | none => match dcall E tt s.h o.op with
      | some x => ob x fun r => kres r put fun v h => K (.panic v) ⟨s.t, s.ds, h⟩
      | none => match o.op with
        | .panic x => oa (aopd tt x) fun v => kpan v fun v => K (.panic v) s
        | _ => deff E tt s.h o.op put
  | some (j, want) => match (ops[j]?).bind (·.dst) with
    | none => none
    | some d => oa (T.get (Pos.ofNat d) tt) fun g => match dval E.P tt s.h o.op with
      | some dx => ob (kgv want g dx.x) fun v => put v s.h
      | none => match dcall E tt s.h o.op with
        | some x => ob (kgc want g s.h x) fun r => kres r put fun v h => K (.panic v) ⟨s.t, s.ds, h⟩
        | none => none

def dops {β : Type} (ops : Array Oper) (K : AEx → ASt → Option β) : List Oper → ASt → Option β
  | [], s => K .norm s
  | o :: rest, s => dop E ops s.t s o fun x s' => match x with | .norm => dops ops K rest s' | x => K x s'

/-- Does an operation hang on memory? -/
def fixedOp (P : Program) (op : Op) : Bool :=
  match op with
  | .load _ _ => false
  | .lookup _ _ _ _ => false
  | .slice ty _ _ _ _ => match P.underlying ty with | some (.array _ _) => false | _ => true
  | .convert s _ _ => match P.underlying s with | some (.slice _) => false | _ => true
  | .call c => match c.callee, c.argTypes.toList with
    | .builtin .len, [ty] => match P.underlying ty with | some (.map _ _) => false | _ => true
    | _, _ => true
  | _ => true

/-- What an operation that may still come says. -/
inductive DP where
  | fixed (i : Nat)
  | read (i : Nat) (x : Heap → Option AV) (v : AV)
  | readg (i : Nat) (want : Bool) (g : AV) (x : Heap → Option AV) (v : AV)
  | obj (i : Nat) (l : Pos) (h1 : Heap)
def DP.i : DP → Nat
  | .fixed i => i
  | .read i _ _ => i
  | .readg i _ _ _ _ => i
  | .obj i _ _ => i
/-- Is a value still what it was? -/
def kre {β : Type} (y : Option AV) (v : AV) (k : Option β) : Option β := match y with | some u => (match avEq v u with | true => k | false => none) | none => none
def krg {β : Type} (want : Bool) (g : AV) (y : Option AV) (v : AV) (k : Option β) : Option β := match g with
  | .bool b => match (match want with | true => b | false => !b) with | true => kre y v k | false => k
  | .tuple _ => k
  | _ => none
def kro {β : Type} (l : Pos) (h1 h' : Heap) (k : Option β) : Option β := match T.get l h1.m with
  | some ob => match T.get l h'.m with | some ob' => (match obEq ob ob' with | true => k | false => none) | none => none
  | none => none
def drechk {β : Type} (anc : Nat) (h' : Heap) (k : Option β) : List DP → Option β
  | [] => k
  | p :: r => match bit anc p.i with
    | true => drechk anc h' k r
    | false => match p with
      | .fixed _ => drechk anc h' k r
      | .read _ x v => kre (x h') v (drechk anc h' k r)
      | .readg _ want g x v => krg want g (x h') v (drechk anc h' k r)
      | .obj _ l h1 => kro l h1 h' (drechk anc h' k r)
def pendAnc (anc : Nat) : List DP → Bool
  | [] => true
  | p :: r => match bit anc p.i with | true => pendAnc anc r | false => false

def ddraw {β : Type} (ops : Array Oper) (K : AEx → ASt → Option β) : List PIt → List DP → ASt → Option β
  | [], _, s => K .norm s
  | x :: xs, pend, s => match x.hv with
    | false => match heavyOp x.o.op with
      | true => none
      | false => match dval E.P (tmpsOf s.t x.looks .leaf) s.h x.o.op with
        | some _ => match fixedOp E.P x.o.op with
          | true => dop E ops (tmpsOf s.t x.looks .leaf) s x.o fun y s' => match y with | .norm => ddraw ops K xs (.fixed x.i :: pend) s' | _ => none
          | false => match x.o.guard, x.o.dst with
            | none, some d => dop E ops (tmpsOf s.t x.looks .leaf) s x.o fun y s' => match y with
              | .norm => oa (T.get (Pos.ofNat d) s'.t) fun v => ddraw ops K xs (.read x.i (fun h => match dval E.P (tmpsOf s.t x.looks .leaf) h x.o.op with | some y => y.x | none => none) v :: pend) s'
              | _ => none
            | some (j, want), some d => match (ops[j]?).bind (·.dst) with
              | none => none
              | some e => oa (T.get (Pos.ofNat e) (tmpsOf s.t x.looks .leaf)) fun g => dop E ops (tmpsOf s.t x.looks .leaf) s x.o fun y s' => match y with
                | .norm => oa (T.get (Pos.ofNat d) s'.t) fun v => ddraw ops K xs (.readg x.i want g (fun h => match dval E.P (tmpsOf s.t x.looks .leaf) h x.o.op with | some y => y.x | none => none) v :: pend) s'
                | _ => none
            | _, _ => none
        | none => match x.o.guard with
          | none => kfree s.h (dop E ops (tmpsOf s.t x.looks .leaf) s x.o fun y s' => match y with | .norm => ddraw ops K xs (.obj x.i s.h.next s'.h :: pend) s' | _ => none)
          | some _ => none
    | true => dop E ops (tmpsOf s.t x.looks .leaf) s x.o fun y s' => match y with
      | .norm => drechk x.anc s'.h (ddraw ops K xs pend s') pend
      | .panic v => match pendAnc x.anc pend with | true => K (.panic v) s' | false => none
      | _ => none
end

def getL : List Nat → T AV → Option (List AV)
  | [], _ => some []
  | d :: L, t => oa (T.get (Pos.ofNat d) t) fun v => oa (getL L t) fun vs => some (v :: vs)
/-- The temporaries' values, one by one, and what is done with them. -/
def mkL {β : Type} (nt : Nat) : List Nat → List AV → T AV → (T AV → Option β) → Option β
  | [], vs, t, k => match vs with | [] => k t | _ :: _ => none
  | d :: L, vs, t, k => match vs with
    | [] => none
    | v :: vs => match Nat.blt d nt with | true => mkL nt L vs (T.set (some v) (Pos.ofNat d) t) k | false => none

def Kd.is : Kd → AEx → Bool
  | .norm, .norm => true
  | .exit i, .exit j => Nat.beq i j
  | .ret, .ret => true
  | _, _ => false

/-- The end that a piece of code came to, written down. -/
def outJ (X : List (Kd × List Nat)) (i : Nat) (x : AEx) (s : ASt) : Option J :=
  match X with
  | [] => none
  | (k, L) :: X => match x, k with
    | .panic v, .pan => some ⟨i, [v], s.ds, s.h⟩
    | x, k => match k.is x with
      | true => oa (getL L s.t) fun vs => some ⟨i, vs, s.ds, s.h⟩
      | false => outJ X (i + 1) x s
def kcase {β : Type} : Nat → List (Option β) → Option β
  | _, [] => none
  | i, f :: fs => match i with | 0 => f | i + 1 => kcase i fs
/-- .. and read again. -/
def inJ {β : Type} (nt : Nat) (r : J) (K : AEx → ASt → Option β) : List (Kd × List Nat) → List (Option β)
  | [] => []
  | (k, L) :: X => (match k with
    | .norm => mkL nt L r.vs .leaf fun t => K .norm ⟨t, r.ds, r.h⟩
    | .exit j => mkL nt L r.vs .leaf fun t => K (.exit j) ⟨t, r.ds, r.h⟩
    | .ret => mkL nt L r.vs .leaf fun t => K .ret ⟨t, r.ds, r.h⟩
    | .pan => match r.vs with | [] => none | v :: vs => match vs with | [] => K (.panic v) ⟨.leaf, r.ds, r.h⟩ | _ :: _ => none) :: inJ nt r K X

def blockX (id : Nat) (x : AEx) : AEx := match x with | .exit j => (match Nat.beq j id with | true => .norm | false => .exit j) | x => x
/-- Rounds, so many at most; the end 0 goes on. -/
def iterD (step : List AV → List ADef → Heap → Option J) (n : Nat) : List AV → List ADef → Heap → Option J :=
  Nat.rec (motive := fun _ => List AV → List ADef → Heap → Option J) (fun _ _ _ => none)
    (fun _ ih vs ds h => ob (step vs ds h) fun r => Nat.rec (motive := fun _ => Option J) (ih r.vs r.ds r.h) (fun i _ => some ⟨i, r.vs, r.ds, r.h⟩) r.i) n

abbrev rounds : Nat := 4611686018427387904

def den (E : DE) : Code → Hn → {β : Type} → ASt → (AEx → ASt → Option β) → Option β
  | .skip, _, _, s, K => K .norm s
  | .label _, _, _, s, K => K .norm s
  | .region _ ops false, _, _, s, K => dops E ops K ops.toList s
  | .region _ ops true, _, _, s, K => match plan ops with | some L => ddraw E ops K L [] s | none => none
  | .seq a b, .seq ha hb, _, s, K => den E a ha s fun x s' => match x with | .norm => den E b hb s' K | x => K x s'
  | .cond c a b, .dup ha hb, _, s, K => oa (aopd s.t c) fun v => kif v (den E a ha s K) (den E b hb s K)
  | .cond c a b, .join X h, _, s, K => match h with
    | .dup ha hb => ob (oa (aopd s.t c) fun v => kif v (den E a ha s (outJ X 0)) (den E b hb s (outJ X 0))) fun r => kcase r.i (inJ E.nt r K X)
    | _ => none
  | .block id b, .one hb, _, s, K => den E b hb s fun x s' => match x with
    | .exit j => match Nat.beq j id with | true => K .norm s' | false => K (.exit j) s'
    | x => K x s'
  | .block id b, .join X h, _, s, K => match h with
    | .one hb => ob (den E b hb s (fun x s' => outJ X 0 (blockX id x) s')) fun r => kcase r.i (inJ E.nt r K X)
    | _ => none
  | .loop b, .loop L X hb, _, s, K => oa (getL L s.t) fun vs => ob (iterD (fun vs ds h => mkL E.nt L vs .leaf fun t => den E b hb ⟨t, ds, h⟩ (outJ ((.norm, L) :: X) 0)) rounds vs s.ds s.h) fun r => kcase r.i (inJ E.nt r K X)
  | .exit id, _, _, s, K => K (.exit id) s
  | .ret, _, _, s, K => K .ret s
  | .scope b, .one hb, _, s, K => den E b hb s K
  | _, _, _, _, _ => none

/-- A function's results. -/
def dres (P : Program) (t : T AV) (h : Heap) : List ResultVar → (List AV → Option (Bool × AV × Heap)) → Option (Bool × AV × Heap)
  | [], k => k []
  | .tmp i :: rs, k => oa (T.get (Pos.ofNat i) t) fun v => dres P t h rs fun vs => k (v :: vs)
  | .cell a ty :: rs, k => match aggT P ty with
    | some true => match szT P ty with | some n => oa (T.get (Pos.ofNat a) t) fun u => ob (kloadN n h u) fun v => dres P t h rs fun vs => k (v :: vs) | none => none
    | some false => oa (T.get (Pos.ofNat a) t) fun u => ob (kload h u) fun v => dres P t h rs fun vs => k (v :: vs)
    | none => none
/-- The way out: nothing was deferred but the marks of ranges over functions. -/
def dleave {β : Type} (k : Heap → Option β) : List ADef → Heap → Option β
  | [], h => k h
  | .mark l :: ds, h => match T.get l h.m with
    | some .dfr => T.setK h.m l none fun m => dleave k ds ⟨h.next, m⟩
    | _ => none
  | .fn _ _ _ :: _, _ => none
def argL {β : Type} (nt : Nat) : Nat → Nat → List AV → T AV → (T AV → Option β) → Option β
  | 0, _, vs, t, k => match vs with | [] => k t | _ :: _ => none
  | n + 1, i, vs, t, k => match vs with
    | [] => none
    | v :: vs => match Nat.blt i nt with | true => argL nt n (i + 1) vs (T.set (some v) (Pos.ofNat i) t) k | false => none

def dfun (P : Program) (σ : FuncId → List AV → Heap → Option (Bool × AV × Heap)) (dyn : AV → List AV → Heap → Option (Bool × AV × Heap)) (fn : Func) (c : Code) (hn : Hn) (np : Nat) (args : List AV) (h : Heap) : Option (Bool × AV × Heap) :=
  argL fn.ntmps np 0 args .leaf fun t => den ⟨P, fn.ntmps, σ, dyn⟩ c hn ⟨t, [], h⟩ fun x s => match x with
    | .norm => dleave (fun h => dres P s.t h fn.results.toList fun vs => some (false, oneOr vs, h)) s.ds s.h
    | .ret => dleave (fun h => dres P s.t h fn.results.toList fun vs => some (false, oneOr vs, h)) s.ds s.h
    | .panic v => kds s.ds (some (true, v, s.h))
    | .exit _ => none
end
end Go.Rh

/- The evaluator's operations are right. -/
namespace Go.Rh
variable {P : Program}

theorem aop_pure {sf : Self} {t : T AV} {h : Heap} {op : Op} {v : AV} (hv : apure P t op = some v) : aop P sf t h op = some (false, v, h) := by simp [aop, hv]
theorem aop_read {sf : Self} {t : T AV} {h : Heap} {op : Op} {v : AV} (h0 : apure P t op = none) (hv : aread P t h op = some v) : aop P sf t h op = some (false, v, h) := by simp [aop, h0, hv]
theorem aop_alloc {sf : Self} {t : T AV} {h : Heap} {op : Op} {ob : AObj} {mk : Pos → AV} (h0 : apure P t op = none) (h1 : aread P t h op = none) (hv : aalloc P t op = some (ob, mk)) : aop P sf t h op = some (false, mk h.next, h.push ob) := by
  simp [aop, h0, h1, hv, Heap.pushK_eq]
theorem aop_eff {sf : Self} {t : T AV} {h h' : Heap} {op : Op} {v : AV} (h0 : apure P t op = none) (h1 : aread P t h op = none) (h2 : aalloc P t op = none) (hv : aeff P t h op = some (v, h')) : aop P sf t h op = some (false, v, h') := by
  simp [aop, h0, h1, h2, hv]

theorem kconvI_ok {s d : TypeId} {ds : TypeDesc} {k : IntKind} (h1 : P.underlying s = some ds) (h2 : P.underlying d = some (.int k)) {x v : AV} (h : kconvI k x = some v) : aconv P s d x = some v := by
  unfold kconvI at h
  split at h
  · simp only [Option.some.injEq] at h; subst h; simp [aconv, h1, h2]
  · cases h
theorem kconvS_ok {s d : TypeId} (h1 : P.underlying s = some .string) (h2 : P.underlying d = some .string) {x v : AV} (h : kconvS x = some v) : aconv P s d x = some v := by
  unfold kconvS at h
  split at h
  · simp only [Option.some.injEq] at h; subst h; simp [aconv, h1, h2]
  · cases h
theorem dconv_ok {sf : Self} {t : T AV} {h : Heap} {s d : TypeId} {x : Operand} {y : DX} (hd : dconv P t h s d x = some y) {v : AV} (hv : y.x = some v) : aop P sf t h (.convert s d x) = some (false, v, h) := by
  unfold dconv at hd
  split at hd
  · rename_i a k h1 h2
    simp only [Option.some.injEq] at hd; subst hd
    obtain ⟨u, hu, hk⟩ := oa_eq hv
    exact aop_pure (by simp only [apure, hu]; exact kconvI_ok h1 h2 hk)
  · rename_i h1 h2
    simp only [Option.some.injEq] at hd; subst hd
    obtain ⟨u, hu, hk⟩ := oa_eq hv
    exact aop_pure (by simp only [apure, hu]; exact kconvS_ok h1 h2 hk)
  · rename_i e h1 h2
    split at hd
    · rename_i h3
      simp only [Option.some.injEq] at hd; subst hd
      obtain ⟨u, hu, hk⟩ := oa_eq hv
      refine aop_read ?_ ?_
      · simp only [apure, hu, aconv, h1, h2]
      · simp only [aread, hu, abytesStr, h1, h2, h3]
        exact hk
    · cases hd
  · cases hd

theorem dslice_ok {sf : Self} {t : T AV} {h : Heap} {ty : TypeId} {x : Operand} {lo hi mx : Option Operand} {y : DX} (hd : dslice P t h ty x lo hi mx = some y) {v : AV} (hv : y.x = some v) : aop P sf t h (.slice ty x lo hi mx) = some (false, v, h) := by
  unfold dslice at hd
  split at hd
  · rename_i n e h1
    simp only [Option.some.injEq] at hd; subst hd
    obtain ⟨u, hu, hv⟩ := oa_eq hv
    obtain ⟨a, ha, hv⟩ := oa_eq hv
    obtain ⟨b, hb, hv⟩ := oa_eq hv
    obtain ⟨c, hc, hv⟩ := oa_eq hv
    refine aop_read ?_ (by simp only [aread, hu, ha, hb, hc]; exact hv)
    simp only [apure, hu, ha, hb, hc, aslice, h1]
  · simp only [Option.some.injEq] at hd; subst hd
    obtain ⟨u, hu, hv⟩ := oa_eq hv
    obtain ⟨a, ha, hv⟩ := oa_eq hv
    obtain ⟨b, hb, hv⟩ := oa_eq hv
    obtain ⟨c, hc, hv⟩ := oa_eq hv
    exact aop_pure (by simp only [apure, hu, ha, hb, hc]; exact hv)
  · cases hd

theorem kfa_ok {s : TypeId} {fs : Array Field} {f : Nat} {fd : Field} {n : Nat} (h1 : P.underlying s = some (.struct fs)) (h2 : fs.toList[f]? = some fd) (h3 : szT P fd.type = some (n + 1)) {x v : AV} (h : kfa fd.offset x = some v) : afieldAddr P s x f = some v := by
  unfold kfa at h
  split at h
  · simp only [Option.some.injEq] at h; subst h; simp only [afieldAddr, h1, h2, h3]
  · cases h
theorem dfieldAddr_ok {sf : Self} {t : T AV} {h : Heap} {ty : TypeId} {x : Operand} {f : Nat} {y : DX} (hd : dfieldAddr P t ty x f = some y) {v : AV} (hv : y.x = some v) : aop P sf t h (.fieldAddr ty x f) = some (false, v, h) := by
  unfold dfieldAddr at hd
  split at hd
  · rename_i fs h1
    split at hd
    · rename_i fd h2
      split at hd
      · rename_i n h3
        simp only [Option.some.injEq] at hd; subst hd
        obtain ⟨u, hu, hv⟩ := oa_eq hv
        exact aop_pure (by simp only [apure, hu]; exact kfa_ok h1 h2 h3 hv)
      · cases hd
    · cases hd
  · cases hd
theorem kpart_ok {ty : TypeId} {ag : Bool} {n : Nat} (h1 : aggT P ty = some ag) (h2 : ag = true → szT P ty = some n) {vs : List AV} {o : Nat} {v : AV} (h : kpart ag o n vs = some v) : apart P ty vs o = some v := by
  unfold kpart at h
  split at h
  · simp only [apart, h1, h2 rfl]; exact h
  · simp only [apart, h1]; exact h
theorem dfield_ok {sf : Self} {t : T AV} {h : Heap} {ty : TypeId} {x : Operand} {f : Nat} {y : DX} (hd : dfield P t ty x f = some y) {v : AV} (hv : y.x = some v) : aop P sf t h (.field ty x f) = some (false, v, h) := by
  unfold dfield at hd
  split at hd
  · rename_i fs h1
    split at hd
    · rename_i fd h2
      have key : ∀ {ag : Bool} {n : Nat} {u : AV}, aggT P fd.type = some ag → (ag = true → szT P fd.type = some n) → aopd t x = some u → kfield ag fd.offset n u = some v → aop P sf t h (.field ty x f) = some (false, v, h) := by
        intro ag n u h3 h4 hu hk
        unfold kfield at hk
        split at hk
        · exact aop_pure (by simp only [apure, hu, afield, h1, h2]; exact kpart_ok h3 h4 hk)
        · cases hk
      split at hd
      · rename_i h3
        split at hd
        · rename_i n h4
          simp only [Option.some.injEq] at hd; subst hd
          obtain ⟨u, hu, hv⟩ := oa_eq hv
          exact key h3 (fun _ => h4) hu hv
        · cases hd
      · rename_i h3
        simp only [Option.some.injEq] at hd; subst hd
        obtain ⟨u, hu, hv⟩ := oa_eq hv
        exact key h3 (fun e => by cases e) hu hv
      · cases hd
    · cases hd
  · cases hd

theorem dindexAddr_ok {sf : Self} {t : T AV} {h : Heap} {ty : TypeId} {x i : Operand} {y : DX} (hd : dindexAddr P t ty x i = some y) {v : AV} (hv : y.x = some v) : aop P sf t h (.indexAddr ty x i) = some (false, v, h) := by
  unfold dindexAddr at hd
  split at hd
  · rename_i len e h1
    split at hd
    · rename_i s h2
      simp only [Option.some.injEq] at hd; subst hd
      obtain ⟨u, hu, hv⟩ := oa_eq hv
      obtain ⟨j, hj, hv⟩ := oa_eq hv
      refine aop_pure ?_
      simp only [apure, hu, hj]
      unfold kiaA at hv
      split at hv
      · split at hv
        · split at hv
          · rename_i hb
            simp only [aindexAddr, h1, h2, hb]; exact hv
          · cases hv
        · cases hv
      · cases hv
    · cases hd
  · rename_i e h1
    split at hd
    · rename_i s h2
      simp only [Option.some.injEq] at hd; subst hd
      obtain ⟨u, hu, hv⟩ := oa_eq hv
      obtain ⟨j, hj, hv⟩ := oa_eq hv
      refine aop_pure ?_
      simp only [apure, hu, hj]
      unfold kia at hv
      split at hv
      · split at hv
        · split at hv
          · rename_i hb
            simp only [aindexAddr, h1, h2, hb]; exact hv
          · cases hv
        · cases hv
      · cases hv
    · cases hd
  · cases hd
theorem dindex_ok {sf : Self} {t : T AV} {h : Heap} {ty : TypeId} {x i : Operand} {y : DX} (hd : dindex P t ty x i = some y) {v : AV} (hv : y.x = some v) : aop P sf t h (.index ty x i) = some (false, v, h) := by
  unfold dindex at hd
  split at hd
  · rename_i h1
    simp only [Option.some.injEq] at hd; subst hd
    obtain ⟨u, hu, hv⟩ := oa_eq hv
    obtain ⟨j, hj, hv⟩ := oa_eq hv
    refine aop_pure ?_
    simp only [apure, hu, hj]
    unfold kixS at hv
    split at hv
    · split at hv
      · simp only [aindex, h1]; exact hv
      · cases hv
    · cases hv
  · rename_i len e h1
    split at hd
    · rename_i s ag h2 h3
      simp only [Option.some.injEq] at hd; subst hd
      obtain ⟨u, hu, hv⟩ := oa_eq hv
      obtain ⟨j, hj, hv⟩ := oa_eq hv
      refine aop_pure ?_
      simp only [apure, hu, hj]
      unfold kixA at hv
      split at hv
      · split at hv
        · split at hv
          · rename_i hb
            simp only [aindex, h1, h2, hb]; exact kpart_ok h3 (fun _ => h2) hv
          · cases hv
        · cases hv
      · cases hv
    · cases hd
  · cases hd

theorem list1 {α : Type} {l : List α} {x : α} (h : l = [x]) : l = [x] := h
theorem dlen_ok {sf : Self} {t : T AV} {h : Heap} {ty : TypeId} {x : Operand} {c : Call} (hc : c.callee = .builtin .len) (ha : c.args.toList = [x]) (ht : c.argTypes.toList = [ty]) {y : DX} (hd : dlen P t h ty x = some y) {v : AV} (hv : y.x = some v) : aop P sf t h (.call c) = some (false, v, h) := by
  have e1 : ∀ u, aopd t x = some u → apure P t (.call c) = alen P ty u := fun u hu => by simp only [apure, hc, ha, ht, hu]
  unfold dlen at hd
  split at hd
  · rename_i h1
    simp only [Option.some.injEq] at hd; subst hd
    obtain ⟨u, hu, hv⟩ := oa_eq hv
    refine aop_pure ?_
    rw [e1 u hu]
    unfold klenS at hv
    split at hv
    · simp only [alen, h1]; exact hv
    · cases hv
  · rename_i e h1
    simp only [Option.some.injEq] at hd; subst hd
    obtain ⟨u, hu, hv⟩ := oa_eq hv
    refine aop_pure ?_
    rw [e1 u hu]
    unfold klenL at hv
    split at hv
    · simp only [alen, h1]; exact hv
    · simp only [alen, h1]; exact hv
    · simp only [alen, h1]; exact hv
    · cases hv
  · rename_i n e h1
    simp only [Option.some.injEq] at hd; subst hd
    obtain ⟨u, hu, hv⟩ := oa_eq hv
    refine aop_pure ?_
    rw [e1 u hu]
    simp only [alen, h1]; exact hv
  · rename_i k e h1
    simp only [Option.some.injEq] at hd; subst hd
    obtain ⟨u, hu, hv⟩ := oa_eq hv
    unfold klenM at hv
    split at hv
    · refine aop_pure ?_
      rw [e1 _ hu]
      simp only [alen, h1]; exact hv
    · rename_i l
      refine aop_read ?_ ?_
      · rw [e1 _ hu]; simp only [alen, h1]
      · simp only [aread, hc, ha, ht, hu, h1]; exact hv
    · cases hv
  · cases hd

theorem kbinO_ok {op : BinOp} {ty : TypeId} {x y : Operand} {u v r : AV} (h : kbinO P op ty (isC x || isC y) u v = some r) : abin P op ty x y u v = some r := by
  have key : ∀ {o1 o2 : Operand}, (isC o1 || isC o2) = (isC x || isC y) → abin P op ty o1 o2 u v = abin P op ty x y u v := by
    intro o1 o2 e
    unfold abin
    split <;> first | rfl | (rw [e])
  unfold kbinO at h
  split at h
  · rename_i e; rw [← h]; exact (key (by rw [e]; rfl)).symm
  · rename_i e; rw [← h]; exact (key (by rw [e]; rfl)).symm

theorem dval_ok {sf : Self} {t : T AV} {h : Heap} {op : Op} {x : DX} (hd : dval P t h op = some x) {v : AV} (hv : x.x = some v) : aop P sf t h op = some (false, v, h) := by
  unfold dval at hd
  split at hd
  · simp only [Option.some.injEq] at hd; subst hd; exact aop_pure (by simp only [apure]; exact hv)
  · simp only [Option.some.injEq] at hd; subst hd; exact aop_pure (by simp only [apure]; exact hv)
  · simp only [Option.some.injEq] at hd; subst hd
    obtain ⟨c, hc, hv⟩ := oa_eq hv
    obtain ⟨a, ha, hv⟩ := oa_eq hv
    obtain ⟨b, hb, hv⟩ := oa_eq hv
    refine aop_pure ?_
    unfold kpick at hv
    split at hv
    · simp only [apure, hc, ha]; exact hv
    · simp only [apure, hc, hb]; exact hv
    · cases hv
  · simp only [Option.some.injEq] at hd; subst hd
    obtain ⟨u, hu, hv⟩ := oa_eq hv
    refine aop_pure ?_
    unfold knil at hv
    split at hv
    · simp only [apure, hu]; exact hv
    · simp only [apure, hu]; exact hv
    · cases hv
  · split at hd
    · simp only [Option.some.injEq] at hd; subst hd
      obtain ⟨u, hu, hv⟩ := oa_eq hv
      obtain ⟨w, hw, hv⟩ := oa_eq hv
      refine aop_pure ?_
      simp only [apure, hu, hw]
      unfold kbinI at hv
      split at hv
      · unfold abin; exact hv
      · cases hv
    · simp only [Option.some.injEq] at hd; subst hd
      obtain ⟨u, hu, hv⟩ := oa_eq hv
      obtain ⟨w, hw, hv⟩ := oa_eq hv
      refine aop_pure ?_
      simp only [apure, hu, hw]
      unfold kbinS at hv
      split at hv
      · unfold abin; exact hv
      · cases hv
    · simp only [Option.some.injEq] at hd; subst hd
      obtain ⟨u, hu, hv⟩ := oa_eq hv
      obtain ⟨w, hw, hv⟩ := oa_eq hv
      refine aop_pure ?_
      simp only [apure, hu, hw]
      exact kbinO_ok hv
    · cases hd
  · simp only [Option.some.injEq] at hd; subst hd
    obtain ⟨u, hu, hv⟩ := oa_eq hv
    exact aop_pure (by simp only [apure, hu]; exact hv)
  · exact dconv_ok hd hv
  · split at hd
    · rename_i hc
      simp only [Option.some.injEq] at hd; subst hd
      obtain ⟨u, hu, hv⟩ := oa_eq hv
      exact aop_pure (by simp only [apure, hu, aiface, hc]; exact hv)
    · cases hd
  · rename_i f first caps
    split at hd
    · rename_i hf
      simp only [Option.some.injEq] at hd; subst hd
      obtain ⟨vs, hvs, hv⟩ := oa_eq hv
      exact aop_pure (by simp only [apure, hf, aopds, hvs]; exact hv)
    · rename_i b bs hf
      split at hd
      · rename_i hcap
        simp only [Option.some.injEq] at hd; subst hd
        obtain ⟨vs, hvs, hv⟩ := oa_eq hv
        refine aop_pure ?_
        simp only [apure, hf, hcap, hvs, aopds]
        cases vs with
        | nil => simp only [aopds] at hvs; split at hvs <;> simp at hvs
        | cons v vs => exact hv
      · cases hd
  · exact dslice_ok hd hv
  · exact dfieldAddr_ok hd hv
  · exact dfield_ok hd hv
  · exact dindexAddr_ok hd hv
  · exact dindex_ok hd hv
  · simp only [Option.some.injEq] at hd; subst hd
    obtain ⟨u, hu, hv⟩ := oa_eq hv
    exact aop_pure (by simp only [apure, hu]; exact hv)
  · simp only [Option.some.injEq] at hd; subst hd
    obtain ⟨u, hu, hv⟩ := oa_eq hv
    exact aop_pure (by simp only [apure, hu]; exact hv)
  · simp only [Option.some.injEq] at hd; subst hd
    obtain ⟨u, hu, hv⟩ := oa_eq hv
    exact aop_pure (by simp only [apure, hu]; exact hv)
  · split at hd
    · rename_i ha
      split at hd
      · rename_i n hn
        simp only [Option.some.injEq] at hd; subst hd
        obtain ⟨u, hu, hv⟩ := oa_eq hv
        refine aop_read (by simp [apure]) ?_
        unfold kloadN at hv
        split at hv
        · simp only [aread, hu, aloadT, ha, hn]; exact hv
        · cases hv
      · cases hd
    · rename_i ha
      simp only [Option.some.injEq] at hd; subst hd
      obtain ⟨u, hu, hv⟩ := oa_eq hv
      refine aop_read (by simp [apure]) ?_
      unfold kload at hv
      split at hv
      · simp only [aread, hu, aloadT, ha]; exact hv
      · cases hv
    · cases hd
  · simp only [Option.some.injEq] at hd; subst hd
    obtain ⟨m, hm, hv⟩ := oa_eq hv
    obtain ⟨k, hk, hv⟩ := oa_eq hv
    exact aop_read (by simp [apure]) (by simp only [aread, hm, hk]; exact hv)
  · rename_i c
    split at hd
    · rename_i hc ha ht
      exact dlen_ok hc ha ht hd hv
    · rename_i hc
      simp only [Option.some.injEq] at hd; subst hd
      obtain ⟨u, hu, hv⟩ := oa_eq hv
      exact aop_pure (by simp only [apure, hc, hu]; exact hv)
    · rename_i hc
      simp only [Option.some.injEq] at hd; subst hd
      obtain ⟨u, hu, hv⟩ := oa_eq hv
      exact aop_pure (by simp only [apure, hc, hu]; exact hv)
    · cases hd
  · cases hd

/-- What is known of the functions that are called. -/
def DynOK (P : Program) (dyn : AV → List AV → Heap → Option (Bool × AV × Heap)) : Prop :=
  ∀ fv args h r, dyn fv args h = some r → ∃ sf, SelfOK P sf ∧ acall sf fv args h = some r
structure EOK (E : DE) : Prop where
  σ : SpecsOK E.P E.σ
  dyn : DynOK E.P E.dyn

def selfS (σ : Specs) : Self := fun c => match c with | .call f args h => (match σ f args h with | some (b, v, h') => some (.call b v h') | none => none) | _ => none
theorem SelfOK.ofSpecs {σ : Specs} (h : SpecsOK P σ) : SelfOK P (selfS σ) := by
  refine ⟨fun rd nt c s x s' e => ?_, fun f args hp b v h' e => ?_, fun f args hp b v h' e => ?_, fun f args hp pv b v h' e => ?_⟩
  · simp [selfS] at e
  · simp only [selfS] at e
    split at e
    · rename_i b1 v1 h1 hs
      simp only [Option.some.injEq, Out.call.injEq] at e
      obtain ⟨rfl, rfl, rfl⟩ := e
      exact h _ _ _ _ _ _ hs
    · cases e
  · simp [selfS] at e
  · simp [selfS] at e

theorem dcall_ok {E : DE} (hE : EOK E) {t : T AV} {h : Heap} {op : Op} {x : Option (Bool × AV × Heap)} (hd : dcall E t h op = some x) {r : Bool × AV × Heap} (hv : x = some r) :
    ∃ sf, SelfOK E.P sf ∧ aop E.P sf t h op = some r := by
  unfold dcall at hd
  split at hd
  · rename_i c
    have gen : ∀ {f : Operand}, c.callee = .value f → ∀ sf, aop E.P sf t h (.call c) = match aopd t f, aopds t c.args.toList with | some g, some vs => acall sf g vs h | _, _ => none := by
      intro f hc sf
      simp only [aop, apure, aread, aalloc, aeff, hc]
      rfl
    split at hd
    · rename_i g hc
      simp only [Option.some.injEq] at hd; subst hd
      obtain ⟨vs, hvs, hv⟩ := oa_eq hv
      refine ⟨_, SelfOK.ofSpecs hE.σ, ?_⟩
      rw [gen hc]
      obtain ⟨b, v, h'⟩ := r
      simp only [aopd, hvs, acall, List.append_nil, selfS, hv]
    · rename_i f _ hc
      simp only [Option.some.injEq] at hd; subst hd
      obtain ⟨fv, hf, hv⟩ := oa_eq hv
      obtain ⟨vs, hvs, hv⟩ := oa_eq hv
      obtain ⟨sf, hs, ha⟩ := hE.dyn _ _ _ _ hv
      refine ⟨sf, hs, ?_⟩
      rw [gen hc, hf, hvs]
      exact ha
    · cases hd
  · cases hd
end Go.Rh

