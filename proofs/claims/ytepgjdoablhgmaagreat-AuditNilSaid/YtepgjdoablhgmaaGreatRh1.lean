/- An evaluator of the model's code over abstract heaps, and that it is right; part 1. No condition. -/
import Derived.Test.YtepgjdoablhgmaaGreatRh0
import Derived.Laws.Append
import Derived.Maps.RangeRun
import Derived.Lib.UnsafeStr
import Derived.TacticsIn
/- Operations that read memory. -/
namespace Go.Rh
variable {P : Program}

def aloadT (P : Program) (h : Heap) (ty : TypeId) (l : Pos) (off : Nat) : Option AV :=
  match aggT P ty with
  | some true => match szT P ty with
    | some n => match aloadN h l off n with | some vs => some (.agg vs) | none => none
    | none => none
  | some false => aload h l off
  | none => none
theorem aloadT_sound {ρ : Ren} {h : Heap} {w : World} (hh : HR ρ h w) {l : Pos} {i : BI} (hl : ρ l = some i) {ty : TypeId} {off : Nat} {v : AV} (hv : aloadT P h ty l off = some v) :
    ∃ c, VR ρ v c ∧ (loadVar ty ⟨i.blk, off, none⟩).run P w = .ok c w := by
  unfold aloadT at hv
  split at hv
  · rename_i ha
    split at hv
    · rename_i n hn
      split at hv
      · rename_i vs hvs
        simp only [Option.some.injEq] at hv; subst hv
        obtain ⟨xs, hr, hx⟩ := mem_loadN (P := P) hh hl hvs
        refine ⟨.agg xs.toArray, ⟨_, rfl, by simpa using hx⟩, ?_⟩
        simp [loadVar, run_isAgg ha, run_sizeOf hn, hr]
      · cases hv
    · cases hv
  · rename_i ha
    obtain ⟨x, hx, hr⟩ := mem_load hh hl hv
    exact ⟨x, hr, by simp [loadVar, run_isAgg ha, hx]⟩
  · cases hv

/-- A zero value, whole. -/
def azeroV (P : Program) (t : TypeId) : Option AV :=
  match P.info? t with
  | some i => match i.zero with | some z => cav z | none => none
  | none => none
theorem azeroV_sound (ρ : Ren) {t : TypeId} {v : AV} (h : azeroV P t = some v) : ∃ z, VR ρ v z ∧ ∀ w, (zeroValue t).run P w = .ok z w := by
  unfold azeroV at h
  split at h
  · rename_i i hi
    split at h
    · rename_i z hz
      exact ⟨z, cav_sound ρ _ h, fun w => by simp [zeroValue, typeInfo, hi, hz]⟩
    · cases h
  · cases h

/-- A map's entries. -/
def akv (h : Heap) : AV → Option (List (AV × AV))
  | .nilmap => some []
  | .map l => match T.get l h.m with | some (.map kv _ _) => some kv | _ => none
  | _ => none
/-- 'v' or 'v, ok'. -/
def okv (ok : Bool) (v : AV) (b : Bool) : AV := match ok with | true => .tuple [v, .bool b] | false => v
def alookup (P : Program) (h : Heap) (ty : TypeId) (m k : AV) (ok : Bool) : Option AV :=
  match P.underlying ty with
  | some (.map kt et) =>
    match akv h m, acheck P kt k with
    | some kv, true => match afind P kt k kv 0 with
      | some (some (_, v)) => some (okv ok v true)
      | some none => match azeroV P et with
        | some z => some (okv ok z false)
        | none => none
      | none => none
    | _, _ => none
  | _ => none
theorem alookup_sound {ρ : Ren} {h : Heap} {w : World} (hh : HR ρ h w) {ty : TypeId} {m k v : AV} {ok : Bool} (hv : alookup P h ty m k ok = some v) {cm ck : Value} (hm : VR ρ m cm) (hk : VR ρ k ck) :
    ∃ c, VR ρ v c ∧ (Instr.lookup ty cm ck ok).run P w = .ok c w := by
  unfold alookup at hv
  split at hv
  · rename_i kt et hu
    split at hv
    · rename_i kv hkv hck
      obtain ⟨es, hes, hget⟩ : ∃ es : Array MapEntry, KVR ρ kv es.toList ∧ (cm = .map none ∧ es = #[] ∨ ∃ r clock, cm = .map (some r) ∧ w.heap[r]? = some (.map es clock)) := by
        unfold akv at hkv
        split at hkv
        · simp only [Option.some.injEq] at hkv; subst hkv; simp only [VR] at hm; subst hm
          exact ⟨#[], rfl, .inl ⟨rfl, rfl⟩⟩
        · rename_i l
          obtain ⟨i, hl, rfl⟩ := hm
          split at hkv
          · rename_i kv' hg
            simp only [Option.some.injEq] at hkv; subst hkv
            obtain ⟨es, clock, h1, h2, _⟩ := (hh.obj l i hl).2 _ hg
            exact ⟨es, h2, .inr ⟨_, clock, rfl, h1⟩⟩
          · cases hkv
        · cases hkv
      have hcheck := fun e => acheck_sound hck hk e w
      have main : ∀ r, afind P kt k kv 0 = some r → ∃ cr, (Instr.findKey kt ck es.toList).run P w = .ok cr w ∧ FoundR ρ r cr := fun r hr => afind_sound hck hk hr hes w
      have tail : ∀ (cr : Option (Nat × Value)), (Instr.findKey kt ck es.toList).run P w = .ok cr w → ∀ c u, ((∃ j, cr = some (j, c)) ∧ u = true) ∨ (cr = none ∧ u = false ∧ (zeroValue et).run P w = .ok c w) →
          (Instr.lookup ty cm ck ok).run P w = .ok (if ok then .tuple #[c, .bool u] else c) w := by
        intro cr hcr c u hcu
        rcases hget with ⟨rfl, rfl⟩ | ⟨r, clock, rfl, hr⟩
        · rcases hcu with ⟨⟨j, rfl⟩, rfl⟩ | ⟨rfl, rfl, hz⟩
          · simp only [Instr.lookup, Sem.run_bind, run_underlying hu, Result.andThen_ok, Sem.run_pure, hcheck, hcr]
          · simp only [Instr.lookup, Sem.run_bind, run_underlying hu, Result.andThen_ok, Sem.run_pure, hcheck, hcr, hz]
        · have hg : (getObj r).run P w = .ok (.map es clock) w := by simp [getObj, Sem.run, hr]
          rcases hcu with ⟨⟨j, rfl⟩, rfl⟩ | ⟨rfl, rfl, hz⟩
          · simp only [Instr.lookup, Sem.run_bind, run_underlying hu, Result.andThen_ok, Sem.run_pure, hcheck, hcr, hg]
          · simp only [Instr.lookup, Sem.run_bind, run_underlying hu, Result.andThen_ok, Sem.run_pure, hcheck, hcr, hg, hz]
      have shape : ∀ (u : AV) (c : Value) (b : Bool), VR ρ u c → VR ρ (okv ok u b) (if ok then .tuple #[c, .bool b] else c) := by
        intro u c b huc
        cases ok
        · exact huc
        · exact ⟨_, rfl, c, _, rfl, huc, _, _, rfl, rfl, rfl⟩
      split at hv
      · rename_i j u hf
        simp only [Option.some.injEq] at hv; subst hv
        obtain ⟨cr, hcr, hr⟩ := main _ hf
        cases cr with
        | none => exact hr.elim
        | some p =>
          obtain ⟨j', cv⟩ := p
          obtain ⟨_, hcv⟩ := hr
          exact ⟨_, shape u cv true hcv, tail _ hcr cv true (.inl ⟨⟨j', rfl⟩, rfl⟩)⟩
      · rename_i hf
        split at hv
        · rename_i z hz
          simp only [Option.some.injEq] at hv; subst hv
          obtain ⟨cr, hcr, hr⟩ := main _ hf
          obtain ⟨cz, hcz, hzr⟩ := azeroV_sound ρ hz
          cases cr with
          | some p => exact hr.elim
          | none => exact ⟨_, shape z cz false hcz, tail _ hcr cz false (.inr ⟨rfl, rfl, hzr w⟩)⟩
        · cases hv
      · cases hv
    · cases hv
  · cases hv

/-- 'x[lo:hi]' of an array behind a pointer. -/
def asliceA (P : Program) (h : Heap) (t : TypeId) (x : AV) (lo hi mx : Option AV) : Option AV :=
  match x, P.underlying t with
  | .ptr l off, some (.array n e) =>
    match szT P e, bnd 0 lo, bnd n hi, mx, T.get l h.m with
    | some s, some a, some b, none, some (.cells _ true _) => match Nat.ble a b, Nat.ble b n with
      | true, true => match Nat.beq n a with
        | true => some (.slice l off 0 0 s)
        | false => some (fN (off + a * s) fun o => fN (b - a) fun m => fN (n - a) fun k => .slice l o m k s)
      | _, _ => none
    | _, _, _, _, _ => none
  | _, _ => none
theorem asliceA_sound {ρ : Ren} {h : Heap} {w : World} (hh : HR ρ h w) {t : TypeId} {x v : AV} {lo hi mx : Option AV} (hv : asliceA P h t x lo hi mx = some v) {cx : Value} {clo chi cmx : Option Value}
    (hx : VR ρ x cx) (hlo : OVR ρ lo clo) (hhi : OVR ρ hi chi) (hmx : OVR ρ mx cmx) : ∃ c, VR ρ v c ∧ (Instr.sliceAt t cx clo chi cmx).run P w = .ok c w := by
  unfold asliceA at hv
  split at hv
  · rename_i l off n e hu
    split at hv
    · rename_i s a b cs el hs ha hb hg
      have hm : cmx = none := by cases cmx with | none => rfl | some c => exact hmx.elim
      subst hm
      obtain ⟨i, hl, rfl⟩ := hx
      obtain ⟨c, fz, h1, h2, h3, h4, h6, h7, h8, h9⟩ := (hh.obj l i hl).2 _ hg
      split at hv
      · rename_i hab hbn
        have hab := Nat.le_of_ble_eq_true hab
        have hbn := Nat.le_of_ble_eq_true hbn
        have hbd := bounds2 (P := P) (is := false) (bnd_sound ha hlo) (bnd_sound hb hhi) hab (cap := n) hbn w
        have run : (Instr.sliceAt t (.pointer (some ⟨i.blk, off, none⟩)) clo chi none).run P w =
            .ok (.slice (some (if n = a then ⟨i.blk, off, none⟩ else ⟨i.blk, off + a * s, none⟩)) (b - a) (n - a)) w := by
          simp [Instr.sliceAt, run_underlying hu, Instr.sureAddr, hbd, run_sizeOf hs, addr_add]
        split at hv
        · rename_i hna
          have hna := Nat.eq_of_beq_eq_true hna
          simp only [Option.some.injEq] at hv; subst hv
          refine ⟨_, ⟨i, n - a, hl, ?_, ?_⟩, run⟩
          · unfold CapOK; rw [if_pos (.inl h4)]; omega
          · rw [if_pos hna]; congr 1; omega
        · rename_i hna
          have hna : n ≠ a := fun e => by rw [e] at hna; simp at hna
          simp only [fN_eq, Option.some.injEq] at hv; subst hv
          refine ⟨_, ⟨i, n - a, hl, ?_, ?_⟩, run⟩
          · unfold CapOK; rw [if_pos (.inl h4)]
          · rw [if_neg hna]
      · cases hv
    · cases hv
  · cases hv

/-- The bytes in cells, as a number. -/
def bytesN : List AV → Option Nat
  | [] => some 0
  | .int .u8 (.ofNat m) :: r => match Nat.blt m 256, bytesN r with
    | true, some v => some (m + 256 * v)
    | _, _ => none
  | _ => none
def abytesStr (P : Program) (h : Heap) (s d : TypeId) (x : AV) : Option AV :=
  match P.underlying s, P.underlying d with
  | some (.slice e), some .string => match P.underlying e with
    | some (.int .u8) =>
      match x with
      | .nilslice => some (.str 0 0)
      | .slice l off n _ _ => match aloadN h l off n with
        | some vs => match bytesN vs with | some v => some (fN n fun n => fN v fun v => .str n v) | none => none
        | none => none
      | _ => none
    | _ => none
  | _, _ => none
theorem bytesN_sound {ρ : Ren} : ∀ {vs : List AV} {xs : List Value} {v : Nat}, bytesN vs = some v → VRs ρ vs xs → ∃ l : List UInt8, xs = l.map (fun b => .int .u8 b.toNat) ∧ strN l = v
  | [], xs, v, h, hx => by simp only [bytesN, Option.some.injEq] at h; subst h; simp only [VRs] at hx; subst hx; exact ⟨[], rfl, rfl⟩
  | x :: vs, xs, v, h, hx => by
    obtain ⟨c, cs, rfl, hc, hx⟩ := hx
    unfold bytesN at h
    split at h
    · rename_i e; cases e
    · rename_i m r e
      cases e
      split at h
      · rename_i u hm hr
        have hm := blt_lt hm
        simp only [Option.some.injEq] at h; subst h
        obtain ⟨l, rfl, rfl⟩ := bytesN_sound hr hx
        simp only [VR] at hc; subst hc
        have hb : (UInt8.ofNat m).toNat = m := by simp [UInt8.toNat_ofNat']; omega
        exact ⟨UInt8.ofNat m :: l, by simp only [List.map_cons, hb]; rfl, by simp only [strN, hb]⟩
      · cases h
    · cases h
theorem run_bytesToString_list (a : Addr) (len : Nat) (l : List UInt8) (w : World) (h : (loadCells a len).run P w = .ok (l.map fun b => Value.int .u8 b.toNat).toArray w) :
    (Conv.bytesToString (.slice (some a) len len)).run P w = .ok (.string ⟨l.toArray⟩) w := by
  have key : ∀ (l : List UInt8) (s : List UInt8), (forIn (l.map fun b => Value.int .u8 b.toNat) (⟨s.toArray⟩ : ByteArray) fun c s => (do
      let .int .u8 n := c | stuck "bytesToString: byte expected"
      pure (ForInStep.yield (s.push (UInt8.ofNat n.toNat))) : Sem (ForInStep ByteArray))).run P w = .ok ⟨(s ++ l).toArray⟩ w := by
    intro l
    induction l with
    | nil => intro s; simp
    | cons b l ih =>
      intro s
      simp only [List.map_cons, List.forIn_cons, Sem.run_bind, Sem.run_pure, Result.andThen_ok]
      have hp : (⟨s.toArray⟩ : ByteArray).push (UInt8.ofNat (b.toNat : Int).toNat) = ⟨(s ++ [b]).toArray⟩ := by
        simp [ByteArray.push]
      rw [hp, ih]
      simp
  have := key l []
  simp only [Conv.bytesToString, Sem.run_bind, h, Result.andThen_ok]
  rw [← Array.forIn_toList]
  simp at this ⊢
  exact this

theorem abytesStr_sound {ρ : Ren} {h : Heap} {w : World} (hh : HR ρ h w) {s d : TypeId} {x v : AV} (hv : abytesStr P h s d x = some v) {cx : Value} (hx : VR ρ x cx) :
    ∃ c, VR ρ v c ∧ (convert s d cx).run P w = .ok c w := by
  unfold abytesStr at hv
  split at hv
  · rename_i e hs hd
    split at hv
    · rename_i he
      split at hv
      · simp only [Option.some.injEq] at hv; subst hv
        simp only [VR] at hx; subst hx
        refine ⟨.string ⟨#[]⟩, VR_str.2 ⟨[], rfl, rfl, rfl⟩, ?_⟩
        simp [convert, run_underlying hs, run_underlying hd, run_underlying he, Conv.bytesToString]
        rfl
      · rename_i l off n cap es
        split at hv
        · rename_i vs hl
          split at hv
          · rename_i u hb
            simp only [fN_eq, Option.some.injEq] at hv; subst hv
            obtain ⟨i, k', hi, hc, rfl⟩ := hx
            obtain ⟨xs, hr, hxs⟩ := mem_loadN (P := P) hh hi hl
            obtain ⟨lb, rfl, rfl⟩ := bytesN_sound hb hxs
            have hlen : lb.length = n := by
              unfold aloadN at hl
              split at hl
              · obtain ⟨rfl, hn⟩ := takeN_eq hl
                have := hxs.length
                simp at this hn; omega
              · cases hl
            refine ⟨.string ⟨lb.toArray⟩, VR_str.2 ⟨lb, rfl, hlen, rfl⟩, ?_⟩
            have e1 : (Conv.bytesToString (.slice (some ⟨i.blk, off, none⟩) n k')).run P w = (Conv.bytesToString (.slice (some ⟨i.blk, off, none⟩) n n)).run P w := rfl
            have e2 := run_bytesToString_list (P := P) _ n lb w hr
            simp only [convert, Sem.run_bind, run_underlying hs, run_underlying hd, run_underlying he, Result.andThen_ok]
            rw [e1]; exact e2
          · cases hv
        · cases hv
      · cases hv
    · cases hv
  · cases hv

/-- The value of an operation that reads. -/
def aread (P : Program) (t : T AV) (h : Heap) (op : Op) : Option AV :=
  match op with
  | .load ty x => match aopd t x with | some (.ptr l off) => aloadT P h ty l off | _ => none
  | .lookup ty m k ok => match aopd t m, aopd t k with | some m, some k => alookup P h ty m k ok | _, _ => none
  | .slice ty x lo hi mx => match aopd t x, aopdO t lo, aopdO t hi, aopdO t mx with
    | some u, some a, some b, some c => asliceA P h ty u a b c
    | _, _, _, _ => none
  | .convert s d x => match aopd t x with | some u => abytesStr P h s d u | none => none
  | .call c => match c.callee, c.args.toList, c.argTypes.toList with
    | .builtin .len, [x], [ty] => match aopd t x, P.underlying ty with
      | some (.map l), some (.map _ _) => match akv h (.map l) with | some kv => some (fN kv.length fun n => .int .i64 (.ofNat n)) | none => none
      | _, _ => none
    | _, _, _ => none
  | _ => none

theorem aread_sound {ρ : Ren} {nt : Nat} {t : T AV} {a : Act} (ht : TmpR ρ nt t a.tmps) {h : Heap} {w : World} (hh : HR ρ h w) {o : Oper} {v : AV} (hv : aread P t h o.op = some v) :
    ∃ c, VR ρ v c ∧ (execOp a.eval o).run P w = .ok (.value c) w := by
  unfold aread at hv
  split at hv
  · rename_i ty x ho
    split at hv
    · rename_i l off hx
      have hx := aopd_sound ht hx
      obtain ⟨i, hl, he⟩ := hx
      obtain ⟨c, hc, hr⟩ := aloadT_sound hh hl hv
      exact ⟨c, hc, by simp [execOp, ho, he, Instr.loadAt, Instr.sureAddr, hr]⟩
    · cases hv
  · rename_i ty m k ok ho
    split at hv
    · rename_i m' k' hm hk
      obtain ⟨c, hc, hr⟩ := alookup_sound hh hv (aopd_sound ht hm) (aopd_sound ht hk)
      exact ⟨c, hc, by simp [execOp, ho, hr]⟩
    · cases hv
  · rename_i ty x lo hi mx ho
    split at hv
    · rename_i u b c d hx h1 h2 h3
      obtain ⟨c, hc, hr⟩ := asliceA_sound hh hv (aopd_sound ht hx) (aopdO_sound ht h1) (aopdO_sound ht h2) (aopdO_sound ht h3)
      exact ⟨c, hc, by simp [execOp, ho, hr]⟩
    · cases hv
  · rename_i s d x ho
    split at hv
    · rename_i u hx
      obtain ⟨c, hc, hr⟩ := abytesStr_sound hh hv (aopd_sound ht hx)
      exact ⟨c, hc, by simp [execOp, ho, hr]⟩
    · cases hv
  · rename_i c ho
    split at hv
    · rename_i x ty hc ha hty
      split at hv
      · rename_i l k e hx hu
        split at hv
        · rename_i kv hk
          simp only [fN_eq, Option.some.injEq] at hv; subst hv
          have hx := aopd_sound ht hx
          obtain ⟨i, hl, he⟩ := hx
          simp only [akv] at hk
          split at hk
          · rename_i kv' bs cl hg
            simp only [Option.some.injEq] at hk; subst hk
            obtain ⟨es, clock, h1, h2, _⟩ := (hh.obj l i hl).2 _ hg
            refine ⟨.int .i64 (kv'.length : Nat), rfl, ?_⟩
            have hlen : es.size = kv'.length := by rw [h2.length]; rfl
            have hgo : (getObj i.blk).run P w = .ok (.map es clock) w := by simp [getObj, Sem.run, h1]
            simp [execOp, ho, resolve, hc, arr1 ha, arr1 hty, invoke, builtin, he, Builtin.len_, run_underlying hu, hgo, goInt, hlen]
          · cases hk
        · cases hv
      · cases hv
    · cases hv
  · cases hv

end Go.Rh

/- Operations that make memory. -/
namespace Go.Rh
variable {P : Program}

def amakeSlice (P : Program) (ty : TypeId) (x y : AV) : Option (List AV × Nat × Nat × Nat × TypeId) :=
  match P.underlying ty, x, y with
  | some (.slice e), .int _ (.ofNat l), .int _ (.ofNat c) =>
    match P.info? e, azero P e with
    | some i, some zs => match Nat.ble l c, Nat.ble (i.bytes * c) 140737488355328, Nat.ble c 1099511627776, Nat.beq zs.length 0 with
      | true, true, true, false => some (azeros (c * i.size) zs, l, c, i.size, e)
      | _, _, _, _ => none
    | _, _ => none
  | _, _, _ => none
theorem amakeSlice_sound {ρ : Ren} {ty : TypeId} {x y : AV} {cs : List AV} {l c s : Nat} {e : TypeId} (h : amakeSlice P ty x y = some (cs, l, c, s, e)) {cx cy : Value} (hx : VR ρ x cx) (hy : VR ρ y cy) :
    ∃ (a : Array Value), VRs ρ cs a.toList ∧ ∀ w, (Instr.makeSlice ty cx cy).run P w = .ok (.slice (some ⟨w.heap.size, 0, none⟩) l c) (w.alloc (.cells a e)) := by
  unfold amakeSlice at h
  split at h
  · rename_i e k l' k2 c' hu
    split at h
    · rename_i i zs hi hz
      split at h
      · rename_i h1 h2 h3 h4
        have h1 := Nat.le_of_ble_eq_true h1
        have h2 := Nat.le_of_ble_eq_true h2
        have h3 := Nat.le_of_ble_eq_true h3
        have h4 : zs.length ≠ 0 := fun e => by rw [e] at h4; cases h4
        simp only [Option.some.injEq, Prod.mk.injEq] at h
        obtain ⟨rfl, rfl, rfl, rfl, rfl⟩ := h
        obtain ⟨z, hz1, hz2⟩ := azero_sound ρ hz
        simp only [VR] at hx hy; subst hx; subst hy
        refine ⟨(Array.range (c' * i.size)).map fun j => z.cells[j % z.cells.size]!, azeros_sound hz2 _ (.inr h4), fun w => ?_⟩
        have w1 : IntKind.i64.wrap (Int.ofNat l') = (l' : Int) := wrap_nat .i64 l' (by simp only [lim]; omega)
        have w2 : IntKind.i64.wrap (Int.ofNat c') = (c' : Int) := wrap_nat .i64 c' (by simp only [lim]; omega)
        have hb : ((i.bytes : Int) * (c' : Int)) = ((i.bytes * c' : Nat) : Int) := by simp
        have hb2 : ¬ (((i.bytes * c' : Nat) : Int) > 2 ^ 48) := by
          have : ((2 : Int) ^ 48) = 281474976710656 := by decide
          rw [this]; omega
        have hcond : (decide ((c' : Int) < 0) || decide ((i.bytes : Int) * (c' : Int) > 2 ^ 48) || decide ((l' : Int) < 0) || decide ((l' : Int) > (c' : Int))) = false := by
          rw [hb]
          simp only [Bool.or_eq_false_iff, decide_eq_false_iff_not]
          exact ⟨⟨⟨by omega, hb2⟩, by omega⟩, by omega⟩
        simp only [Instr.makeSlice, Sem.run_bind, run_underlying hu, Result.andThen_ok, asInt, asIntOf, Sem.run_pure, typeInfo, run_program, hi, w1, w2]
        rw [if_neg (by rw [hcond]; simp)]
        simp only [Sem.run_bind, run_askRoom, Result.andThen_ok, run_sizeOf (show szT P e = some i.size by simp [szT, hi]), Int.toNat_natCast]
        by_cases h0 : c' * i.size = 0
        · have hemp : ((Array.range (c' * i.size)).map fun j => (#[] : Array Value)[j % (#[] : Array Value).size]!) = ((Array.range (c' * i.size)).map fun j => z.cells[j % z.cells.size]!) := by rw [h0]; simp
          rw [if_pos h0, ← hemp]
          simp [newRow]
        · rw [if_neg h0]
          simp [newRow, hz1]
      · cases h
    · cases h
  · cases h

/-- The bytes of a string, as cells. -/
def bytesOf : Nat → Nat → List AV
  | 0, _ => []
  | n + 1, v => fN (v % 256) fun m => fN (v / 256) fun u => .int .u8 (.ofNat m) :: bytesOf n u
theorem bytesOf_sound (ρ : Ren) : ∀ (l : List UInt8), VRs ρ (bytesOf l.length (strN l)) (l.map fun b => .int .u8 b.toNat)
  | [] => rfl
  | b :: l => by
    have hb := b.toNat_lt
    simp only [List.length_cons, bytesOf, fN_eq, strN]
    have h1 : (b.toNat + 256 * strN l) % 256 = b.toNat := by omega
    have h2 : (b.toNat + 256 * strN l) / 256 = strN l := by omega
    rw [h1, h2]
    exact ⟨_, _, rfl, rfl, bytesOf_sound ρ l⟩

/-- A new object, and the value that stands for it. -/
def aalloc (P : Program) (t : T AV) (op : Op) : Option (AObj × (Pos → AV)) :=
  match op with
  | .alloc e => match azero P e with | some zs => some (.cells zs true e, fun l => .ptr l 0) | none => none
  | .box e x => match aopd t x with
    | some v => match notTuple v with | true => some (.cells v.cells true e, fun l => .ptr l 0) | false => none
    | none => none
  | .buildSlice ty n ps => match aparts t ps.toList with
    | some vs => match abuildSlice P ty n vs with | some (cs, s, e) => some (.cells cs true e, fun l => .slice l 0 n n s) | none => none
    | none => none
  | .makeMap ty r => match r with
    | none => some (.map [] [] 0, fun l => .map l)
    | some x => match aopd t x, P.underlying ty with | some (.int _ _), some (.map _ _) => some (.map [] [] 0, fun l => .map l) | _, _ => none
  | .makeSlice ty x y => match aopd t x, aopd t y with
    | some u, some v => match amakeSlice P ty u v with | some (cs, l, c, s, e) => some (.cells cs true e, fun p => .slice p 0 l c s) | none => none
    | _, _ => none
  | .convert s d x => match P.underlying s, P.underlying d, aopd t x with
    | some _, some (.slice e), some (.str n v) => match P.underlying e with
      | some (.int .u8) => match Nat.blt n 9223372036854775808 with | true => some (.cells (bytesOf n v) false e, fun l => .slice l 0 n n 1) | false => none
      | _ => none
    | _, _, _ => none
  | _ => none

theorem freeze_new (w : World) (c : Array Value) (e : TypeId) : ((w.alloc (.cells c e)).freeze ⟨w.heap.size, c.size, none⟩ 1).heap = w.heap.push (.cells c e (c.size, c.size + 1)) := by
  apply Array.ext_getElem?
  intro k
  simp only [World.freeze, World.alloc, Nat.one_ne_zero, if_false, Array.getElem?_modify, Array.getElem?_push]
  by_cases h : w.heap.size = k
  · subst h; simp
  · by_cases h2 : k = w.heap.size
    · omega
    · simp [h, h2]

theorem aalloc_sound {ρ : Ren} {nt : Nat} {t : T AV} {a : Act} (ht : TmpR ρ nt t a.tmps) {h : Heap} {w : World} (hh : HR ρ h w) {o : Oper} {ob : AObj} {mk : Pos → AV} (hv : aalloc P t o.op = some (ob, mk))
    (x : Pos) (hx : ρ x = none) (hn : x.toNat < h.next.toNat) (hlow : ρ.n ≤ x.toNat) (hg : T.get x h.m = some ob) :
    ∃ c w' i, (execOp a.eval o).run P w = .ok (.value c) w' ∧ HR (ρ.upd x i) h w' ∧ Ext ρ w (ρ.upd x i) w' ∧ VR (ρ.upd x i) (mk x) c := by
  have hle := fun i => Ren.le_upd (x := x) i hx
  -- all but one of them: a row of cells, known whole
  have row : ∀ (cs : List AV) (a' : Array Value) (e : TypeId) (c : Value), ob = .cells cs true e → VRs ρ cs a'.toList → (execOp a.eval o).run P w = .ok (.value c) (w.alloc (.cells a' e)) →
      (∀ i : BI, i.blk = w.heap.size → i.exact = true → VR (ρ.upd x i) (mk x) c) →
      ∃ c w' i, (execOp a.eval o).run P w = .ok (.value c) w' ∧ HR (ρ.upd x i) h w' ∧ Ext ρ w (ρ.upd x i) w' ∧ VR (ρ.upd x i) (mk x) c := by
    intro cs a' e c hob hcs hr hm
    subst hob
    have hlen : cs.length = a'.size := by rw [hcs.length]; rfl
    obtain ⟨h1, h2⟩ := hh.new x hx hn hlow (.cells cs true e) { blk := w.heap.size, size := a'.size, ext := cs.length, exact := true } rfl (.cells a' e) hg
      ⟨a', (0, 0), rfl, rfl, rfl, rfl, fun _ => hlen.symm, Nat.le_of_eq hlen, VRs.mono (hle _) (by rw [List.take_of_length_le (by rw [hlen]; simp)]; exact hcs), fun j _ => by simp⟩
    exact ⟨c, _, _, hr, h1, h2, hm _ rfl rfl⟩
  have mp : ob = .map [] [] 0 → (execOp a.eval o).run P w = .ok (.value (.map (some w.heap.size))) (w.alloc (.map #[] 0)) → (mk x = .map x) →
      ∃ c w' i, (execOp a.eval o).run P w = .ok (.value c) w' ∧ HR (ρ.upd x i) h w' ∧ Ext ρ w (ρ.upd x i) w' ∧ VR (ρ.upd x i) (mk x) c := by
    intro hob hr hm
    subst hob
    obtain ⟨h1, h2⟩ := hh.new x hx hn hlow (.map [] [] 0) { blk := w.heap.size } rfl (.map #[] 0) hg ⟨#[], 0, rfl, rfl, by simp, by simp, rfl, rfl⟩
    exact ⟨_, _, _, hr, h1, h2, by rw [hm]; exact ⟨_, Ren.upd_same _ _ _, rfl⟩⟩
  unfold aalloc at hv
  split at hv
  · rename_i e ho
    split at hv
    · rename_i zs hz
      simp only [Option.some.injEq, Prod.mk.injEq] at hv
      obtain ⟨rfl, rfl⟩ := hv
      obtain ⟨z, hz1, hz2⟩ := azero_sound ρ hz
      exact row zs z.cells e (.pointer (some ⟨w.heap.size, 0, none⟩)) rfl hz2 (by simp [execOp, ho, Instr.alloc, hz1, newVar, newRow]) (fun i hi _ => ⟨i, Ren.upd_same _ _ _, by rw [hi]⟩)
    · cases hv
  · rename_i e y ho
    split at hv
    · rename_i v hy
      split at hv
      · rename_i hnt
        simp only [Option.some.injEq, Prod.mk.injEq] at hv
        obtain ⟨rfl, rfl⟩ := hv
        have hr := aopd_sound ht hy
        exact row _ (a.eval y).cells e (.pointer (some ⟨w.heap.size, 0, none⟩)) rfl (hr.cells' hnt) (by simp [execOp, ho, Instr.box, newVar, newRow]) (fun i hi _ => ⟨i, Ren.upd_same _ _ _, by rw [hi]⟩)
      · cases hv
    · cases hv
  · rename_i ty n ps ho
    split at hv
    · rename_i vs hp
      split at hv
      · rename_i cs s e hb
        simp only [Option.some.injEq, Prod.mk.injEq] at hv
        obtain ⟨rfl, rfl⟩ := hv
        obtain ⟨e1, e2⟩ := aparts_sound ht hp
        obtain ⟨c, hc, hr⟩ := abuildSlice_sound hb (cparts := ps.map fun (i, x) => (i, a.eval x)) (by rw [Array.toList_map]; exact e1) (by rw [Array.toList_map]; exact e2)
        refine row cs c e _ rfl hc ?_ (fun i hi hex => ⟨i, n, Ren.upd_same _ _ _, ?_, by rw [hi]⟩)
        · simp only [execOp, ho, Sem.run_bind]; rw [hr]; rfl
        · unfold CapOK; rw [if_pos (.inl hex)]
      · cases hv
    · cases hv
  · rename_i ty r ho
    split at hv
    · simp only [Option.some.injEq, Prod.mk.injEq] at hv
      obtain ⟨rfl, rfl⟩ := hv
      exact mp rfl (by simp [execOp, ho, Instr.makeMap]) rfl
    · rename_i y
      split at hv
      · rename_i k n kt et hy hu
        simp only [Option.some.injEq, Prod.mk.injEq] at hv
        obtain ⟨rfl, rfl⟩ := hv
        have hr := aopd_sound ht hy
        simp only [VR] at hr
        exact mp rfl (by simp [execOp, ho, Instr.makeMap, run_underlying hu, hr, asInt, asIntOf]) rfl
      · cases hv
  · rename_i ty y z ho
    split at hv
    · rename_i u v hy hz
      split at hv
      · rename_i cs l c s e hm
        simp only [Option.some.injEq, Prod.mk.injEq] at hv
        obtain ⟨rfl, rfl⟩ := hv
        obtain ⟨a', hc, hr⟩ := amakeSlice_sound hm (aopd_sound ht hy) (aopd_sound ht hz)
        refine row cs a' e _ rfl hc (by simp only [execOp, ho, Sem.run_bind]; rw [hr]; rfl) (fun i hi hex => ⟨i, c, Ren.upd_same _ _ _, ?_, by rw [hi]⟩)
        unfold CapOK; rw [if_pos (.inl hex)]
      · cases hv
    · cases hv
  · rename_i s d y ho
    split at hv
    · rename_i sd e n v hs hd hy
      split at hv
      · rename_i he
        split at hv
        · rename_i hlt
          have hlt := blt_lt hlt
          simp only [Option.some.injEq, Prod.mk.injEq] at hv
          obtain ⟨rfl, rfl⟩ := hv
          obtain ⟨l, hl, rfl, rfl⟩ := VR_str.1 (aopd_sound ht hy)
          generalize hq : Question.appendCap l.length 0 e = q
          have hcap : ∃ cap, l.length ≤ cap ∧ (choose q).run P w = .ok cap w.drew := by
            subst hq
            refine ⟨_, ?_, by simp [Question.forced]; rfl⟩
            simp [Question.cut]
          obtain ⟨cap, hle', hch⟩ := hcap
          let C : Array Value := (l.map fun b => Value.int .u8 b.toNat).toArray ++ Array.replicate (cap - l.length) (.int .u8 0)
          have hC : C.size = cap := by simp [C]; omega
          have hrun : (execOp a.eval o).run P w = .ok (.value (.slice (some ⟨w.heap.size, 0, none⟩) l.length cap)) ((w.drew.alloc (.cells C e)).freeze ⟨w.heap.size, C.size, none⟩ 1) := by
            have hsh : (w.drew.alloc (.cells C e)).shape? w.heap.size = some (e, C.size) := by
              have : (w.drew.alloc (.cells C e)).heap[w.heap.size]? = some (.cells C e) := heap_alloc_new w.drew _
              simp only [World.shape?]; rw [this]
            have hmap : (Array.map (fun b : UInt8 => Value.int .u8 b.toNat) l.toArray) = (l.map fun b => Value.int .u8 b.toNat).toArray := by simp
            have hnc : (Conv.stringToBytes e (⟨l.toArray⟩ : ByteArray)).run P w = .ok (.slice (some ⟨w.heap.size, 0, none⟩) l.length cap) ((w.drew.alloc (.cells C e)).freeze ⟨w.heap.size, C.size, none⟩ 1) := by
              have hsz : (⟨l.toArray⟩ : ByteArray).size = l.length := rfl
              simp only [Conv.stringToBytes, Sem.run_bind, hsz, hq, hch, Result.andThen_ok, newRow, run_newObj, Sem.run_pure, markStringish, run_shape, hmap]
              rw [show ({ w.drew with heap := w.drew.heap.push (.cells ((l.map fun b => Value.int .u8 b.toNat).toArray ++ Array.replicate (cap - l.length) (.int .u8 0)) e) } : World) = w.drew.alloc (.cells C e) from rfl]
              rw [show w.drew.heap.size = w.heap.size from rfl, hsh]
              simp
            have hcv : (convert s d (.string ⟨l.toArray⟩)).run P w = .ok (.slice (some ⟨w.heap.size, 0, none⟩) l.length cap) ((w.drew.alloc (.cells C e)).freeze ⟨w.heap.size, C.size, none⟩ 1) := by
              rw [← hnc]
              simp only [convert, Sem.run_bind, run_underlying hs, run_underlying hd, run_underlying he, Result.andThen_ok]
            simp only [execOp, ho, hl, Sem.run_bind, hcv]; rfl
          have hheap := freeze_new w.drew C e
          have hlenb : (bytesOf l.length (strN l)).length = l.length := by
            have := (bytesOf_sound ρ l).length; rw [this]; simp
          have htake : C.toList.take (bytesOf l.length (strN l)).length = l.map fun b => Value.int .u8 b.toNat := by
            rw [hlenb]; simp [C]
          obtain ⟨h1, h2⟩ := hh.new x hx hn hlow (.cells (bytesOf l.length (strN l)) false e) { blk := w.heap.size, size := cap, ext := (bytesOf l.length (strN l)).length, exact := false } rfl (.cells C e (C.size, C.size + 1)) hg
            ⟨C, (C.size, C.size + 1), rfl, hC, rfl, rfl, (by intro h; cases h), by rw [hlenb, hC]; exact hle', by rw [htake]; exact VRs.mono (hle _) (bytesOf_sound ρ l), fun j hj => by simp; omega⟩
          have heq : ((w.drew.alloc (.cells C e)).freeze ⟨w.heap.size, C.size, none⟩ 1).heap = (w.alloc (.cells C e (C.size, C.size + 1))).heap := hheap
          refine ⟨_, _, _, hrun, h1.same heq, h2.trans (Ext.same heq ?_ ?_ ?_), ?_⟩
          · unfold World.freeze; rfl
          · unfold World.freeze; rfl
          · unfold World.freeze; rfl
          · refine ⟨_, cap, Ren.upd_same _ _ _, ?_, rfl⟩
            unfold CapOK
            rw [if_neg (by simp [hlenb])]
            exact ⟨hle', by simp⟩
        · cases hv
      · cases hv
    · cases hv
  · cases hv

end Go.Rh

/- Operations that write memory. -/
namespace Go.Rh
variable {P : Program}

theorem run_setObj (w : World) (r : Nat) (o o' : Obj) (h : w.heap[r]? = some o) (hn : ∀ c e f, o ≠ .cells c e f) : (setObj r o').run P w = .ok () { w with heap := w.heap.setIfInBounds r o' } := by
  simp only [setObj, Sem.run, h]
theorem run_getObj (w : World) (r : Nat) (o : Obj) (h : w.heap[r]? = some o) (hn : ∀ c e f, o ≠ .cells c e f) : (getObj r).run P w = .ok o w := by
  simp only [getObj, Sem.run, h]

theorem mem_loadN2 {ρ : Ren} {h : Heap} {w : World} (hh : HR ρ h w) {l : Pos} {i : BI} (hl : ρ l = some i) {off n : Nat} {vs : List AV} (hv : aloadN h l off n = some vs) :
    ∃ xs : List Value, VRs ρ vs xs ∧ xs.length = n ∧ ∀ w' : World, w'.heap = w.heap → (loadCells ⟨i.blk, off, none⟩ n).run P w' = .ok xs.toArray w' := by
  unfold aloadN at hv
  split at hv
  · rename_i cs ex elem hg
    obtain ⟨rfl, hn⟩ := takeN_eq hv
    obtain ⟨c, fz, h1, h2, h3, h4, h6, h7, h8, h9⟩ := (hh.obj l i hl).2 _ hg
    have hd := (VRs.take n (VRs.drop off h8))
    have hlen : (((c.toList.take cs.length).drop off).take n).length = n := by
      rw [← hd.length]; simp at hn ⊢; omega
    refine ⟨_, hd, hlen, fun w' hw => ?_⟩
    have := run_loadCells_list (P := P) w' ⟨i.blk, off, none⟩ (((c.toList.take cs.length).drop off).take n) (fun j x hx => by
      rw [addr_add, cell_of_row w' _ _ c elem fz (by rw [hw]; exact h1)]
      rw [List.getElem?_take] at hx
      split at hx
      · rw [List.getElem?_drop, List.getElem?_take] at hx
        split at hx
        · simpa using hx
        · cases hx
      · cases hx)
    rw [hlen] at this
    exact this
  · cases hv

/-! ### Maps -/
def amapSet (P : Program) (h : Heap) (ty : TypeId) (m k v : AV) : Option Heap :=
  match m, P.underlying ty with
  | .map l, some (.map kt _) => match T.get l h.m, acheck P kt k with
    | some (.map kv bs ck), true => match afind P kt k kv 0 with
      | some (some (i, _)) => T.forceK (T.set (some (.map (kv.set i (k, v)) bs ck)) l h.m) fun m => some ⟨h.next, m⟩
      | some none => fN (ck + 1) fun ck1 => T.forceK (T.set (some (.map (kv ++ [(k, v)]) (bs ++ [ck]) ck1)) l h.m) fun m => some ⟨h.next, m⟩
      | none => none
    | _, _ => none
  | _, _ => none
theorem amapSet_sound {ρ : Ren} {h h' : Heap} {w : World} (hh : HR ρ h w) {ty : TypeId} {m k v : AV} (hv : amapSet P h ty m k v = some h') {cm ck cv : Value} (hm : VR ρ m cm) (hk : VR ρ k ck) (hvv : VR ρ v cv) :
    ∃ w', (Instr.mapUpdate ty cm ck cv).run P w = .ok () w' ∧ HR ρ h' w' ∧ Ext ρ w ρ w' := by
  unfold amapSet at hv
  split at hv
  · rename_i l kt et hu
    obtain ⟨i, hl, rfl⟩ := hm
    split at hv
    · rename_i kv bs cl hg hck
      obtain ⟨hlt, hob⟩ := hh.obj l i hl
      obtain ⟨es, clock, h1, h2, h3, h4, hbs, rfl⟩ := hob _ hg
      have hget := run_getObj (P := P) w i.blk _ h1 (by simp)
      have hcheck := acheck_sound hck hk false w
      have hset := fun o' => run_setObj (P := P) w i.blk _ o' h1 (by simp)
      have done : ∀ (kv' : List (AV × AV)) (es' : Array MapEntry) (clock' : Nat), KVR ρ kv' es'.toList → (∀ e ∈ es'.toList, e.born < clock') → (es'.toList.map (·.born)).Nodup →
          HR ρ { h with m := T.set (some (.map kv' (es'.toList.map (·.born)) clock')) l h.m } { w with heap := w.heap.setIfInBounds i.blk (.map es' clock') } ∧ Ext ρ w ρ { w with heap := w.heap.setIfInBounds i.blk (.map es' clock') } := by
        intro kv' es' clock' a1 a2 a3
        refine ⟨hh.upd hl hg (by simp) (fun b hb => Array.getElem?_setIfInBounds_ne (Ne.symm hb)) ?_, Ext.upd hl (by simp) (fun b hb => Array.getElem?_setIfInBounds_ne (Ne.symm hb)) rfl rfl rfl⟩
        rw [Array.getElem?_setIfInBounds_self_of_lt hlt]
        exact ⟨es', clock', rfl, a1, a2, a3, rfl, rfl⟩
      split at hv
      · rename_i j u hf
        rw [T.forceK_eq] at hv
        simp only [Option.some.injEq] at hv; subst hv
        obtain ⟨cr, hcr, hr⟩ := afind_sound hck hk hf h2 w
        cases cr with
        | none => exact hr.elim
        | some p =>
          obtain ⟨j', c⟩ := p
          obtain ⟨rfl, hc⟩ := hr
          obtain ⟨_, k2, hkv, hkk⟩ := afind_get hf
          obtain ⟨e, he, hek, _⟩ := h2.get (by simpa using hkv)
          have he' : es[j]? = some e := by simpa using he
          have hsame := akeq_same hkk hk hek
          obtain ⟨d1, d2⟩ := done (kv.set j (k, v)) (es.modify j fun e => { e with key := ck, val := cv }) clock
            (by rw [Array.toList_modify]; exact KVR.set j h2 hk hvv)
            (by
              intro e' hm'
              rw [Array.toList_modify] at hm'
              obtain ⟨n, hn⟩ := List.mem_iff_getElem?.1 hm'
              rw [List.getElem?_modify] at hn
              cases hes : es.toList[n]? with
              | none => rw [hes] at hn; cases hn
              | some e0 =>
                rw [hes] at hn
                have h0 := h3 e0 (List.mem_of_getElem? hes)
                simp only [Option.map_eq_map, Option.map_some, Option.some.injEq] at hn
                split at hn <;> (subst hn; exact h0))
            (by
              rw [Array.toList_modify]
              have : (es.toList.modify j fun e => { e with key := ck, val := cv }).map (·.born) = es.toList.map (·.born) := by
                apply List.ext_getElem?
                intro n
                simp only [List.getElem?_map, List.getElem?_modify]
                cases es.toList[n]? <;> simp
                split <;> rfl
              rw [this]; exact h4)
          rw [show (es.modify j fun e => { e with key := ck, val := cv }).toList.map (·.born) = bs from by
            rw [Array.toList_modify, ← hbs]
            apply List.ext_getElem?
            intro n
            simp only [List.getElem?_map, List.getElem?_modify]
            cases es.toList[n]? <;> simp
            split <;> rfl] at d1
          refine ⟨_, ?_, d1, d2⟩
          simp only [Instr.mapUpdate, Sem.run_bind, run_underlying hu, Result.andThen_ok, hget, hcheck, hcr, he', Option.map_some, Option.getD_some]
          simp only [Instr.keyThatStays, hsame, if_true, Sem.run_pure, Result.andThen_ok, hset]
      · rename_i hf
        rw [fN_eq, T.forceK_eq] at hv
        simp only [Option.some.injEq] at hv; subst hv
        obtain ⟨cr, hcr, hr⟩ := afind_sound hck hk hf h2 w
        cases cr with
        | some p => exact hr.elim
        | none =>
          obtain ⟨d1, d2⟩ := done (kv ++ [(k, v)]) (es.push { key := ck, val := cv, born := clock }) (clock + 1)
            (by rw [Array.toList_push]; exact KVR.append h2 hk hvv)
            (by
              intro e' hm'
              rw [Array.toList_push, List.mem_append] at hm'
              rcases hm' with hm' | hm'
              · have := h3 e' hm'; omega
              · simp at hm'; subst hm'; simp)
            (by
              rw [Array.toList_push, List.map_append, List.nodup_append]
              refine ⟨h4, by simp, fun a ha b hb => ?_⟩
              simp at hb; subst hb
              obtain ⟨e0, he0, rfl⟩ := List.mem_map.1 ha
              have := h3 e0 he0; omega)
          rw [show (es.push { key := ck, val := cv, born := clock }).toList.map (·.born) = bs ++ [clock] from by rw [Array.toList_push, List.map_append, hbs]; rfl] at d1
          refine ⟨_, ?_, d1, d2⟩
          simp only [Instr.mapUpdate, Sem.run_bind, run_underlying hu, Result.andThen_ok, hget, hcheck, hcr, hset]
      · cases hv
    · cases hv
  · cases hv

theorem eraseIdx_mapB : ∀ (l : List MapEntry) (j : Nat), (l.eraseIdx j).map (·.born) = (l.map (·.born)).eraseIdx j
  | [], j => by simp
  | x :: xs, 0 => by simp
  | x :: xs, j + 1 => by simp [eraseIdx_mapB xs j]

def amapDel (P : Program) (h : Heap) (ty : TypeId) (m k : AV) : Option Heap :=
  match m, P.underlying ty with
  | .nilmap, some (.map kt _) => match acheck P kt k with | true => some h | false => none
  | .map l, some (.map kt _) => match T.get l h.m, acheck P kt k with
    | some (.map kv bs ck), true => match afind P kt k kv 0 with
      | some (some (i, _)) => T.forceK (T.set (some (.map (kv.eraseIdx i) (bs.eraseIdx i) ck)) l h.m) fun m => some ⟨h.next, m⟩
      | some none => some h
      | none => none
    | _, _ => none
  | _, _ => none
theorem amapDel_sound {ρ : Ren} {h h' : Heap} {w : World} (hh : HR ρ h w) {ty tk ty' : TypeId} {m k : AV} (hv : amapDel P h ty m k = some h') {cm ck : Value} (hm : VR ρ m cm) (hk : VR ρ k ck) :
    ∃ w', (Builtin.delete_ #[ty, tk] ty' #[cm, ck]).run P w = .ok (.tuple #[]) w' ∧ HR ρ h' w' ∧ Ext ρ w ρ w' := by
  unfold amapDel at hv
  split at hv
  · rename_i kt et hu
    split at hv
    · rename_i hck
      simp only [Option.some.injEq] at hv; subst hv
      simp only [VR] at hm; subst hm
      refine ⟨w, ?_, hh, Ext.refl _ _⟩
      simp [Builtin.delete_, run_underlying hu, acheck_sound hck hk true w]
    · cases hv
  · rename_i l kt et hu
    obtain ⟨i, hl, rfl⟩ := hm
    split at hv
    · rename_i kv bs cl hg hck
      obtain ⟨hlt, hob⟩ := hh.obj l i hl
      obtain ⟨es, clock, h1, h2, h3, h4, hbs, rfl⟩ := hob _ hg
      have hget := run_getObj (P := P) w i.blk _ h1 (by simp)
      have hcheck := acheck_sound hck hk es.isEmpty w
      have hset := fun o' => run_setObj (P := P) w i.blk _ o' h1 (by simp)
      split at hv
      · rename_i j u hf
        rw [T.forceK_eq] at hv
        simp only [Option.some.injEq] at hv; subst hv
        obtain ⟨cr, hcr, hr⟩ := afind_sound hck hk hf h2 w
        cases cr with
        | none => exact hr.elim
        | some p =>
          obtain ⟨j', c⟩ := p
          obtain ⟨rfl, hc⟩ := hr
          have hto : (es.eraseIdxIfInBounds j).toList = es.toList.eraseIdx j := by
            unfold Array.eraseIdxIfInBounds
            split
            · simp
            · rename_i hnl; rw [List.eraseIdx_of_length_le (by simpa using hnl)]
          refine ⟨{ w with heap := w.heap.setIfInBounds i.blk (.map (es.eraseIdxIfInBounds j) clock) }, ?_, ?_, Ext.upd hl (by simp) (fun b hb => Array.getElem?_setIfInBounds_ne (Ne.symm hb)) rfl rfl rfl⟩
          · simp [Builtin.delete_, run_underlying hu, hget, hcheck, hcr, hset]
          · refine hh.upd hl hg (by simp) (fun b hb => Array.getElem?_setIfInBounds_ne (Ne.symm hb)) ?_
            rw [Array.getElem?_setIfInBounds_self_of_lt hlt]
            refine ⟨_, clock, rfl, by rw [hto]; exact KVR.erase j h2, ?_, ?_, by rw [hto, ← hbs]; exact eraseIdx_mapB es.toList j, rfl⟩
            · rw [hto]; exact fun e he => h3 e (List.mem_of_mem_eraseIdx he)
            · rw [hto]; exact List.Nodup.sublist (List.Sublist.map _ (List.eraseIdx_sublist _ _)) h4
      · rename_i hf
        simp only [Option.some.injEq] at hv; subst hv
        obtain ⟨cr, hcr, hr⟩ := afind_sound hck hk hf h2 w
        cases cr with
        | some p => exact hr.elim
        | none =>
          have hsame : ({ w with heap := w.heap.setIfInBounds i.blk (.map es clock) } : World).heap = w.heap := by
            apply Array.ext_getElem?
            intro n
            simp only [Array.getElem?_setIfInBounds]
            split
            · rename_i e; subst e; exact h1.symm
            · rfl
          refine ⟨{ w with heap := w.heap.setIfInBounds i.blk (.map es clock) }, ?_, hh.same hsame, Ext.same hsame rfl rfl rfl⟩
          simp [Builtin.delete_, run_underlying hu, hget, hcheck, hcr, hset]
      · cases hv
    · cases hv
  · cases hv

end Go.Rh

/- Ranges over maps, where no choice is left: at most one entry is still to come. -/
namespace Go.Rh
variable {P : Program}

theorem next_over {w : World} {r bm since last clock : Nat} {seen : Array Nat} {es : Array MapEntry} {ty : TypeId} (hr : w.heap[r]? = some (.mapIter (some bm) since seen last)) (hm : w.heap[bm]? = some (.map es clock))
    (hck : (!seen.isEmpty && !es.isEmpty && es.all (·.born ≥ last)) = false) (hl : es.filter (fun e => !seen.contains e.born) = #[]) :
    (Instr.next (.pointer (some ⟨r, 0, none⟩)) false ty).run P w = .ok (.tuple #[.bool false]) w := by
  have h1 := run_getObj (P := P) w r _ hr (by simp)
  have h2 := run_getObj (P := P) w bm _ hm (by simp)
  simp only [Instr.next, Sem.run_bind, h1, Result.andThen_ok, h2, hck, Bool.false_eq_true, if_false, hl]
  simp [run_choose, Question.forced]

theorem next_one {w : World} {r bm since last clock : Nat} {seen : Array Nat} {es : Array MapEntry} {ty : TypeId} {e : MapEntry} (hr : w.heap[r]? = some (.mapIter (some bm) since seen last)) (hm : w.heap[bm]? = some (.map es clock))
    (hck : (!seen.isEmpty && !es.isEmpty && es.all (·.born ≥ last)) = false) (hl : es.filter (fun e => !seen.contains e.born) = #[e]) (hb : e.born < since) :
    (Instr.next (.pointer (some ⟨r, 0, none⟩)) false ty).run P w = .ok (.tuple #[.bool true, e.key, e.val]) { w with heap := w.heap.setIfInBounds r (.mapIter (some bm) since (seen.push e.born) clock) } := by
  have h1 := run_getObj (P := P) w r _ hr (by simp)
  have h2 := run_getObj (P := P) w bm _ hm (by simp)
  have h3 := run_setObj (P := P) w r _ (.mapIter (some bm) since (seen.push e.born) clock) hr (by simp)
  have f1 : (#[e] : Array MapEntry).filter (fun x => decide (x.born < since)) = #[e] := by simp [Array.filter, hb]
  have f2 : (#[e] : Array MapEntry).filter (fun x => decide (x.born ≥ since)) = #[] := by
    rw [Array.filter_eq_empty_iff]; intro x hx; simp at hx; subst hx; simp; omega
  simp only [Instr.next, Sem.run_bind, h1, Result.andThen_ok, h2, hck, Bool.false_eq_true, if_false, hl, f1, f2]
  simp [run_choose, Question.forced, h3]


def memN (d : Nat) : List Nat → Bool
  | [] => false
  | x :: xs => match Nat.beq x d with | true => true | false => memN d xs
theorem memN_iff {d : Nat} : ∀ {l : List Nat}, memN d l = true ↔ d ∈ l
  | [] => by simp [memN]
  | x :: xs => by
    simp only [memN]
    split
    · rename_i h; have := Nat.eq_of_beq_eq_true h; subst this; simp
    · rename_i h
      have hne : x ≠ d := fun e => by rw [e] at h; simp at h
      rw [memN_iff]; simp [Ne.symm hne]

/-- The entries that an iterator has not seen. -/
def leftE (seen : List Nat) : List (AV × AV) → List Nat → List ((AV × AV) × Nat)
  | e :: r, b :: bs => match memN b seen with | true => leftE seen r bs | false => (e, b) :: leftE seen r bs
  | _, _ => []
def LER (ρ : Ren) : List ((AV × AV) × Nat) → List MapEntry → Prop
  | [], es => es = []
  | ((k, v), b) :: r, es => ∃ e es', es = e :: es' ∧ VR ρ k e.key ∧ VR ρ v e.val ∧ e.born = b ∧ LER ρ r es'
theorem leftE_sound {ρ : Ren} {seen : List Nat} : ∀ {kv : List (AV × AV)} {es : List MapEntry}, KVR ρ kv es → LER ρ (leftE seen kv (es.map (·.born))) (es.filter fun e => !seen.toArray.contains e.born)
  | [], es, h => by simp only [KVR] at h; subst h; rfl
  | (k, v) :: kv, es, h => by
    obtain ⟨e, es', rfl, hk, hv, hr⟩ := h
    have ih := leftE_sound (seen := seen) hr
    simp only [List.map_cons, leftE, List.filter_cons]
    cases hm : memN e.born seen with
    | true =>
      have : (!seen.toArray.contains e.born) = false := by simp [memN_iff.1 hm]
      rw [this]; simpa using ih
    | false =>
      have : (!seen.toArray.contains e.born) = true := by
        have hn : e.born ∉ seen := fun h => by rw [memN_iff.2 h] at hm; cases hm
        simp [hn]
      rw [this]
      exact ⟨e, _, by simp, hk, hv, rfl, ih⟩

def allGe (last : Nat) : List Nat → Bool
  | [] => true
  | b :: bs => match Nat.ble last b with | true => allGe last bs | false => false
theorem allGe_eq (last : Nat) : ∀ (es : List MapEntry), allGe last (es.map (·.born)) = es.all (·.born ≥ last)
  | [] => rfl
  | e :: es => by
    simp only [List.map_cons, allGe, List.all_cons]
    split
    · rename_i h; rw [allGe_eq]; simp [Nat.le_of_ble_eq_true h]
    · rename_i h
      have : ¬ last ≤ e.born := fun h' => by rw [Nat.ble_eq_true_of_le h'] at h; cases h
      simp [this]
/-- Every entry of the last step is gone, and there are new ones. -/
def stale (seen bs : List Nat) (last : Nat) : Bool := match seen, bs with | _ :: _, _ :: _ => allGe last bs | _, _ => false
theorem stale_eq (seen : List Nat) (es : Array MapEntry) (last : Nat) : (!seen.toArray.isEmpty && !es.isEmpty && es.all (·.born ≥ last)) = stale seen (es.toList.map (·.born)) last := by
  cases es with
  | mk es =>
    cases seen with
    | nil => simp [stale]
    | cons s ss =>
      cases es with
      | nil => simp [stale]
      | cons e es =>
        have := allGe_eq last (e :: es)
        simp only [stale, List.map_cons] at this ⊢
        rw [this]
        simp

def arangeM (P : Program) (h : Heap) (ty : TypeId) (m : AV) : Option (AV × Heap) :=
  match P.underlying ty, m with
  | some (.map _ _), .nilmap => h.pushK .iter0 fun h' => some (.ptr h.next 0, h')
  | some (.map _ _), .map l => match T.get l h.m with
    | some (.map _ _ ck) => h.pushK (.iter l ck [] ck) fun h' => some (.ptr h.next 0, h')
    | _ => none
  | _, _ => none
def anext (h : Heap) (it : AV) (s : Bool) : Option (AV × Heap) :=
  match it, s with
  | .ptr l 0, false => match T.get l h.m with
    | some .iter0 => some (.tuple [.bool false], h)
    | some (.iter m since seen last) => match T.get m h.m with
      | some (.map kv bs ck) => match stale seen bs last with
        | true => none
        | false => match leftE seen kv bs with
          | [] => some (.tuple [.bool false], h)
          | [((k, v), b)] => match Nat.blt b since with
            | true => T.setK h.m l (some (.iter m since (seen ++ [b]) ck)) fun mm => some (.tuple [.bool true, k, v], ⟨h.next, mm⟩)
            | false => none
          | _ => none
      | _ => none
    | _ => none
  | _, _ => none
def lastN : List Nat → Option Nat
  | [] => none
  | [x] => some x
  | _ :: y :: l => lastN (y :: l)
def entryOf (b : Nat) : List (AV × AV) → List Nat → Option (AV × AV)
  | e :: r, c :: bs => match Nat.beq c b with | true => some e | false => entryOf b r bs
  | _, _ => none
def aentry (h : Heap) (it : AV) : Option AV :=
  match it with
  | .ptr l 0 => match T.get l h.m with
    | some (.iter m _ seen last) => match T.get m h.m, lastN seen with
      | some (.map kv bs ck), some b => match Nat.beq ck last, entryOf b kv bs with
        | true, some (k, v) => some (.tuple [k, v])
        | _, _ => none
      | _, _ => none
    | _ => none
  | _ => none

theorem arangeM_sound {ρ : Ren} {h h' : Heap} {w : World} (hh : HR ρ h w) {ty : TypeId} {m v : AV} (hv : arangeM P h ty m = some (v, h')) {cm : Value} (hm : VR ρ m cm) :
    ∃ c w' ρ', (Instr.range ty cm).run P w = .ok c w' ∧ HR ρ' h' w' ∧ Ext ρ w ρ' w' ∧ VR ρ' v c := by
  unfold arangeM at hv
  split at hv
  · rename_i hu
    rw [Heap.pushK_eq] at hv
    simp only [Option.some.injEq, Prod.mk.injEq] at hv
    obtain ⟨rfl, rfl⟩ := hv
    simp only [VR] at hm; subst hm
    obtain ⟨h1, h2⟩ := hh.push .iter0 { blk := w.heap.size } rfl (.mapIter none 0 #[] 0) ⟨0, #[], 0, rfl⟩
    exact ⟨_, _, _, by simp [Instr.range, run_underlying hu], h1, h2, ⟨_, Ren.upd_same _ _ _, rfl⟩⟩
  · rename_i l hu
    split at hv
    · rename_i kv bs ck hg
      rw [Heap.pushK_eq] at hv
      simp only [Option.some.injEq, Prod.mk.injEq] at hv
      obtain ⟨rfl, rfl⟩ := hv
      obtain ⟨j, hl, rfl⟩ := hm
      obtain ⟨es, clock, g1, g2, g3, g4, g5, rfl⟩ := (hh.obj l j hl).2 _ hg
      have hget := run_getObj (P := P) w j.blk _ g1 (by simp)
      obtain ⟨h1, h2⟩ := hh.push (.iter l clock [] clock) { blk := w.heap.size } rfl (.mapIter (some j.blk) clock #[] clock) ⟨j, Ren.le_upd _ hh.fresh_none _ _ hl, rfl⟩
      exact ⟨_, _, _, by simp [Instr.range, run_underlying hu, hget], h1, h2, ⟨_, Ren.upd_same _ _ _, rfl⟩⟩
    · cases hv
  · cases hv

theorem anext_sound {ρ : Ren} {h h' : Heap} {w : World} (hh : HR ρ h w) {it v : AV} {s : Bool} {ty : TypeId} (hv : anext h it s = some (v, h')) {ci : Value} (hi : VR ρ it ci) :
    ∃ c w', (Instr.next ci s ty).run P w = .ok c w' ∧ HR ρ h' w' ∧ Ext ρ w ρ w' ∧ VR ρ v c := by
  unfold anext at hv
  split at hv
  · rename_i l
    obtain ⟨i, hl, rfl⟩ := hi
    split at hv
    · rename_i hg
      simp only [Option.some.injEq, Prod.mk.injEq] at hv
      obtain ⟨rfl, rfl⟩ := hv
      obtain ⟨since, seen, last, g1⟩ := (hh.obj l i hl).2 _ hg
      have hget := run_getObj (P := P) w i.blk _ g1 (by simp)
      exact ⟨_, w, by simp [Instr.next, hget], hh, Ext.refl _ _, ⟨#[.bool false], rfl, ⟨_, _, rfl, rfl, rfl⟩⟩⟩
    · rename_i m since seen last hg
      obtain ⟨j, hmj, g1⟩ := (hh.obj l i hl).2 _ hg
      split at hv
      · rename_i kv bs ck hgm
        obtain ⟨es, clock, g2, g3, g4, g5, g6, rfl⟩ := (hh.obj m j hmj).2 _ hgm
        split at hv
        · cases hv
        · rename_i hst
          have hst' : (!seen.toArray.isEmpty && !es.isEmpty && es.all (·.born ≥ last)) = false := by rw [stale_eq, g6]; exact hst
          have hle := leftE_sound (seen := seen) g3
          rw [g6] at hle
          split at hv
          · rename_i hlf
            rw [hlf] at hle
            simp only [Option.some.injEq, Prod.mk.injEq] at hv
            obtain ⟨rfl, rfl⟩ := hv
            have hl0 : es.filter (fun e => !seen.toArray.contains e.born) = #[] := by
              apply Array.toList_inj.1; rw [Array.toList_filter]; exact hle
            exact ⟨_, w, next_over g1 g2 hst' hl0, hh, Ext.refl _ _, ⟨#[.bool false], rfl, ⟨_, _, rfl, rfl, rfl⟩⟩⟩
          · rename_i k u b hlf
            rw [hlf] at hle
            obtain ⟨e, es', he, hk, hu, hb, hn⟩ := hle
            simp only [LER] at hn; subst hn
            split at hv
            · rename_i hlt
              rw [T.setK_eq] at hv
              simp only [Option.some.injEq, Prod.mk.injEq] at hv
              obtain ⟨rfl, rfl⟩ := hv
              have hl1 : es.filter (fun e => !seen.toArray.contains e.born) = #[e] := by
                apply Array.toList_inj.1; rw [Array.toList_filter]; exact he
              refine ⟨_, _, next_one g1 g2 hst' hl1 (by rw [hb]; exact blt_lt hlt), ?_, Ext.upd hl (by simp) (fun b hb => Array.getElem?_setIfInBounds_ne (Ne.symm hb)) rfl rfl rfl, ⟨#[.bool true, e.key, e.val], rfl, ⟨_, _, rfl, rfl, ⟨_, _, rfl, hk, ⟨_, _, rfl, hu, rfl⟩⟩⟩⟩⟩
              refine hh.upd hl hg (by simp) (fun b hb => Array.getElem?_setIfInBounds_ne (Ne.symm hb)) ?_
              rw [Array.getElem?_setIfInBounds_self_of_lt (hh.obj l i hl).1]
              exact ⟨j, hmj, by rw [hb]; simp⟩
            · cases hv
          · cases hv
      · cases hv
    · cases hv
  · cases hv

theorem lastN_sound : ∀ {l : List Nat} {b : Nat}, lastN l = some b → l.toArray.back? = some b
  | [], b, h => by simp [lastN] at h
  | [x], b, h => by simp only [lastN, Option.some.injEq] at h; subst h; rfl
  | x :: y :: l, b, h => by
    have := lastN_sound (l := y :: l) h
    simp only [List.back?_toArray] at this ⊢
    rw [List.getLast?_cons_cons]; exact this
theorem entryOf_sound {ρ : Ren} {b : Nat} {k v : AV} : ∀ {kv : List (AV × AV)} {es : List MapEntry}, KVR ρ kv es → entryOf b kv (es.map (·.born)) = some (k, v) → ∃ e, es.find? (·.born == b) = some e ∧ VR ρ k e.key ∧ VR ρ v e.val
  | [], es, h, he => by simp [entryOf] at he
  | (k', v') :: kv, es, h, he => by
    obtain ⟨e, es', rfl, hk, hv, hr⟩ := h
    simp only [List.map_cons, entryOf] at he
    split at he
    · rename_i hb
      have hb := Nat.eq_of_beq_eq_true hb
      simp only [Option.some.injEq, Prod.mk.injEq] at he
      obtain ⟨rfl, rfl⟩ := he
      exact ⟨e, by simp [hb], hk, hv⟩
    · rename_i hb
      have hb : (e.born == b) = false := by
        cases h0 : (e.born == b) with
        | false => rfl
        | true => rw [eq_of_beq h0] at hb; simp at hb
      obtain ⟨e', h1, h2⟩ := entryOf_sound hr he
      exact ⟨e', by simp [List.find?_cons, hb, h1], h2⟩
theorem aentry_sound {ρ : Ren} {h : Heap} {w : World} (hh : HR ρ h w) {it v : AV} (hv : aentry h it = some v) {ci : Value} (hi : VR ρ it ci) : ∃ c, (Instr.entry ci).run P w = .ok c w ∧ VR ρ v c := by
  unfold aentry at hv
  split at hv
  · rename_i l
    obtain ⟨i, hl, rfl⟩ := hi
    split at hv
    · rename_i m since seen last hg
      obtain ⟨j, hmj, g1⟩ := (hh.obj l i hl).2 _ hg
      split at hv
      · rename_i kv bs ck b hgm hb
        obtain ⟨es, clock, g2, g3, g4, g5, g6, rfl⟩ := (hh.obj m j hmj).2 _ hgm
        split at hv
        · rename_i k u hc he
          simp only [Option.some.injEq] at hv; subst hv
          have hc := Nat.eq_of_beq_eq_true hc
          rw [← g6] at he
          obtain ⟨e, h1, h2, h3⟩ := entryOf_sound g3 he
          have hget := run_getObj (P := P) w i.blk _ g1 (by simp)
          have hget2 := run_getObj (P := P) w j.blk _ g2 (by simp)
          refine ⟨.tuple #[e.key, e.val], ?_, ⟨_, rfl, ⟨_, _, rfl, h2, ⟨_, _, rfl, h3, rfl⟩⟩⟩⟩
          have hf : es.find? (·.born == b) = some e := by rw [← Array.find?_toList]; exact h1
          have hbk := lastN_sound hb
          simp [Instr.entry, hget, hget2, hc, hbk, hf]
        · cases hv
      · cases hv
    · cases hv
  · cases hv

end Go.Rh

/- append; copy; clear; and all that writes. -/
namespace Go.Rh
variable {P : Program}

/-- What is appended, or copied: its cells, and how many elements. -/
def anews (h : Heap) (s : Nat) (x : AV) : Option (List AV × Nat) :=
  match x with
  | .str n v => match Nat.beq s 1 with | true => some (bytesOf n v, n) | false => none
  | .nilslice => some ([], 0)
  | .eslice => some ([], 0)
  | .slice l off n _ es => match Nat.beq s es, aloadN h l off (n * s) with | true, some vs => some (vs, n) | _, _ => none
  | _ => none
theorem anews_sound {ρ : Ren} {h : Heap} {w : World} (hh : HR ρ h w) {s : Nat} {x : AV} {vs : List AV} {n : Nat} (hv : anews h s x = some (vs, n)) {cx : Value} (hx : VR ρ x cx) :
    ∃ xs : List Value, VRs ρ vs xs ∧ xs.length = n * s ∧ (∀ w', (Builtin.lenOf cx).run P w' = .ok n w') ∧ ∀ w' : World, w'.heap = w.heap → (Builtin.firstCells s n cx).run P w' = .ok xs.toArray w' := by
  unfold anews at hv
  split at hv
  · split at hv
    · rename_i m v he
      have he := Nat.eq_of_beq_eq_true he
      simp only [Option.some.injEq, Prod.mk.injEq] at hv
      obtain ⟨rfl, rfl⟩ := hv
      obtain ⟨l, rfl, rfl, rfl⟩ := VR_str.1 hx
      refine ⟨_, bytesOf_sound ρ l, by rw [he]; simp, fun w' => rfl, fun w' _ => ?_⟩
      have : ((⟨l.toArray⟩ : ByteArray).extract 0 l.length).data = l.toArray := by
        rw [ByteArray.extract_mk]; simp
      simp [Builtin.firstCells, this]
    · cases hv
  · simp only [Option.some.injEq, Prod.mk.injEq] at hv
    obtain ⟨rfl, rfl⟩ := hv
    simp only [VR] at hx; subst hx
    exact ⟨[], rfl, by simp, fun w' => rfl, fun w' _ => rfl⟩
  · simp only [Option.some.injEq, Prod.mk.injEq] at hv
    obtain ⟨rfl, rfl⟩ := hv
    obtain ⟨a, k', rfl⟩ := hx
    exact ⟨[], rfl, by simp, fun w' => rfl, fun w' _ => by simp [Builtin.firstCells, loadCells, loadCellsFrom]⟩
  · rename_i l off m cap es
    split at hv
    · rename_i vs' he hl
      have he := Nat.eq_of_beq_eq_true he
      subst he
      simp only [Option.some.injEq, Prod.mk.injEq] at hv
      obtain ⟨rfl, rfl⟩ := hv
      obtain ⟨i, k', hi, hc, rfl⟩ := hx
      obtain ⟨xs, h1, h2, h3⟩ := mem_loadN2 (P := P) hh hi hl
      exact ⟨xs, h1, h2, fun w' => rfl, fun w' hw => by simp only [Builtin.firstCells]; exact h3 w' hw⟩
    · cases hv
  · cases hv

/-- A block whose object is taken over by a new place. -/
theorem HR.move {ρ : Ren} {h : Heap} {w w' : World} (hh : HR ρ h w) {l : Pos} {i : BI} (hl : ρ l = some i) {o o' : AObj} (hg : T.get l h.m = some o) (i' : BI) (hi : i'.blk = i.blk)
    (hs : w'.heap.size = w.heap.size) (hk : ∀ b, b ≠ i.blk → w'.heap[b]? = w.heap[b]?) (ho : OO (ρ.upd h.next i') i' o' w'.heap[i.blk]?)
    (hos : w'.os = w.os) (hop : w'.output = w.output) (htp : w'.tape = w.tape) :
    HR (ρ.upd h.next i') ⟨h.next.succ, T.set (some o') h.next (T.set none l h.m)⟩ w' ∧ Ext ρ w (ρ.upd h.next i') w' := by
  have hx := hh.fresh_none
  have hle := Ren.le_upd i' hx
  have hne : l ≠ h.next := fun e => by rw [e, hx] at hl; cases hl
  have get : ∀ l' j, ρ l' = some j → T.get l' (T.set (some o') h.next (T.set none l h.m)) = if l' = l then none else T.get l' h.m := by
    intro l' j hj
    have hn : h.next ≠ l' := fun e => by rw [← e, hx] at hj; cases hj
    rw [T.get_set_other _ _ _ _ hn]
    split
    · rename_i e; rw [e, T.get_set_same]
    · rename_i e; rw [T.get_set_other _ _ _ _ (Ne.symm e)]
  refine ⟨⟨fun l' j hj => ?_, fun l1 l2 j1 j2 a a' h1 h2 ha ha' e => ?_, fun l' j hj => ?_, Nat.le_trans hh.low (by simp)⟩, ⟨hle, fun l' j hj => ?_, by rw [hs]; exact Nat.le_refl _, fun b hb hn => hk b (fun e => hn l i hl e.symm), hos, hop, htp, rfl, fun l' j hj => by
    by_cases e : l' = h.next
    · exact .inr (e ▸ hh.low)
    · rw [Ren.upd_other ρ i' e] at hj; exact .inl hj⟩⟩
  · by_cases e : l' = h.next
    · subst e
      rw [Ren.upd_same] at hj; cases hj
      refine ⟨by rw [hs, hi]; exact (hh.obj l i hl).1, fun a ha => ?_⟩
      simp only [T.get_set_same, Option.some.injEq] at ha; subst ha
      rw [hi]; exact ho
    · rw [Ren.upd_other ρ i' e] at hj
      obtain ⟨h1, h2⟩ := hh.obj l' j hj
      refine ⟨by rw [hs]; exact h1, fun a ha => ?_⟩
      simp only [get l' j hj] at ha
      split at ha
      · cases ha
      · rename_i el
        rw [hk _ (fun eb => el (hh.inj l' l j i a o hj hl ha hg eb))]
        exact (h2 a ha).mono hle
  · by_cases e1 : l1 = h.next
    · by_cases e2 : l2 = h.next
      · rw [e1, e2]
      · rw [e1, Ren.upd_same] at h1; cases h1
        rw [Ren.upd_other ρ i' e2] at h2
        simp only [get l2 j2 h2] at ha'
        split at ha'
        · cases ha'
        · rename_i el
          exact absurd (hh.inj l2 l j2 i a' o h2 hl ha' hg (by rw [← e, hi])) el
    · by_cases e2 : l2 = h.next
      · rw [e2, Ren.upd_same] at h2; cases h2
        rw [Ren.upd_other ρ i' e1] at h1
        simp only [get l1 j1 h1] at ha
        split at ha
        · cases ha
        · rename_i el
          exact absurd (hh.inj l1 l j1 i a o h1 hl ha hg (by rw [e, hi])) el
      · rw [Ren.upd_other ρ i' e1] at h1
        rw [Ren.upd_other ρ i' e2] at h2
        simp only [get l1 j1 h1] at ha
        simp only [get l2 j2 h2] at ha'
        split at ha
        · cases ha
        · split at ha'
          · cases ha'
          · exact hh.inj l1 l2 j1 j2 a a' h1 h2 ha ha' e
  · by_cases e : l' = h.next
    · rw [e]; simp
    · rw [Ren.upd_other ρ i' e] at hj
      have := hh.fresh l' j hj
      simp; omega
  · by_cases e : l' = h.next
    · rw [e, Ren.upd_same] at hj; cases hj
      exact .inl ⟨l, i, hl, hi.symm⟩
    · rw [Ren.upd_other ρ i' e] at hj; exact .inl ⟨l', j, hj, rfl⟩

/-- A new array of unknown length, that begins with these cells. -/
def anewArr (h : Heap) (cs : List AV) (need s : Nat) (e : TypeId) : AV × Heap := (.slice h.next 0 need need s, h.push (.cells cs false e))

def aappend (P : Program) (h : Heap) (st xt : TypeId) (sl x : AV) : Option (AV × Heap) :=
  match P.underlying st, P.underlying xt with
  | _, some (.int _) => none
  | some (.slice e), some _ => match P.info? e, azero P e with
    | some i, some zs =>
      match Nat.beq zs.length i.size, Nat.beq i.size 0, Nat.beq i.bytes 0, anews h i.size x with
      | true, false, false, some (news, n) =>
        match sl with
        | .nilslice => match n with
          | 0 => some (.nilslice, h)
          | m + 1 => match Nat.ble ((m + 1) * i.bytes) 70368744177664 with
            | true => some (anewArr h news (m + 1) i.size e)
            | false => none
        | .eslice => match n with | 0 => some (.eslice, h) | _ + 1 => none
        | .slice l off len cap es =>
          match Nat.beq es i.size with
          | false => none
          | true =>
            match Nat.ble (len + n) cap with
            | true => match astoreN h l (off + len * i.size) news with
              | some h' => some (fN (len + n) fun m => .slice l off m cap es, h')
              | none => none
            | false => match Nat.ble ((len + n) * i.bytes) 70368744177664, aloadN h l off (len * i.size), T.get l h.m with
              | true, some olds, some (.cells cs ex el) =>
                match ex || Nat.blt (off + cap * i.size) cs.length with
                | true => some (fN (len + n) fun need => anewArr h (olds ++ news) need i.size e)
                | false => match Nat.beq off 0, Nat.beq (len * i.size) cs.length, news.all AV.one, Nat.beq el e with
                  | true, true, true, true => some (fN (len + n) fun need => (.slice h.next 0 need need i.size, ⟨h.next.succ, T.set (some (.cells (cs ++ news) false e)) h.next (T.set none l h.m)⟩))
                  | _, _, _, _ => none
              | _, _, _ => none
        | _ => none
      | _, _, _, _ => none
    | _, _ => none
  | _, _ => none

theorem zeroCells_size (z : Array Value) (n : Nat) : (Builtin.zeroCells z n).size = n * z.size := by simp [Builtin.zeroCells]

end Go.Rh

/- append is right. -/
namespace Go.Rh
variable {P : Program}

section
variable {st xt ty e : TypeId} {i : TypeInfo} {d : TypeDesc} {z : Value} (hu : P.underlying st = some (.slice e)) (hx : P.underlying xt = some d) (hd : ∀ k, d ≠ .int k) (hi : P.info? e = some i)
include hu hx hd hi

theorem append_in (w : World) {base : Option Addr} {len cap n : Nat} {cx : Value} {xs : List Value} (hl : ∀ w', (Builtin.lenOf cx).run P w' = .ok n w') (hf : (Builtin.firstCells i.size n cx).run P w = .ok xs.toArray w)
    (hn : len + n ≤ cap) : (Builtin.append_ #[st, xt] ty #[.slice base len cap, cx]).run P w =
      ((match base with | some a => storeCells (a.add (len * i.size)) xs | none => pure () : Sem Unit).run P w).andThen fun _ w' => .ok (.slice base (len + n) cap) w' := by
  have hsz : ∀ w, (sizeOf e).run P w = .ok i.size w := fun w => run_sizeOf (by simp [szT, hi]) w
  unfold Builtin.append_
  simp only [List.getElem?_toArray, List.getElem?_cons_zero, List.getElem?_cons_succ]
  simp only [Sem.run_bind, run_underlying hu, Result.andThen_ok, hsz]
  simp only [run_underlying hx, Result.andThen_ok]
  cases base <;> simp [hl, hn, hf] <;> cases d <;> first | exact absurd rfl (hd _) | simp [hl, hn, hf]

theorem append_grow (w : World) {base : Option Addr} {len cap n : Nat} {cx : Value} {xs olds : List Value} (hl : ∀ w', (Builtin.lenOf cx).run P w' = .ok n w')
    (hf : ∀ w', w'.heap = w.heap → (Builtin.firstCells i.size n cx).run P w' = .ok xs.toArray w') (ho : ∀ w', w'.heap = w.heap → (Builtin.firstCells i.size len (.slice base len cap)).run P w' = .ok olds.toArray w')
    (hz : i.zero = some z) (hb : i.bytes ≠ 0) (hn : cap < len + n) (hfit : (len + n) * i.bytes ≤ 70368744177664) :
    ∃ newCap, len + n ≤ newCap ∧ (Builtin.append_ #[st, xt] ty #[.slice base len cap, cx]).run P w =
      .ok (.slice (some ⟨w.heap.size, 0, none⟩) (len + n) newCap) (w.drew.alloc (.cells (olds.toArray ++ xs.toArray ++ Builtin.zeroCells z.cells (newCap - (len + n))) e)) := by
  have hsz : ∀ w, (sizeOf e).run P w = .ok i.size w := fun w => run_sizeOf (by simp [szT, hi]) w
  have hti : ∀ w, (typeInfo e).run P w = .ok i w := fun w => by simp [typeInfo, hi]
  have hze : ∀ w, (zeroValue e).run P w = .ok z w := fun w => by simp [zeroValue, typeInfo, hi, hz]
  refine ⟨(Question.appendCap (len + n) cap e).cut (w.tape w.drawn (.appendCap (len + n) cap e)), by simp [Question.cut], ?_⟩
  have hch : (choose (.appendCap (len + n) cap e)).run P w = .ok ((Question.appendCap (len + n) cap e).cut (w.tape w.drawn (.appendCap (len + n) cap e))) w.drew := by simp [Question.forced]
  generalize (Question.appendCap (len + n) cap e).cut (w.tape w.drawn (.appendCap (len + n) cap e)) = newCap at *
  have hng : ¬ (len + n ≤ cap) := by omega
  have hgrow := growslice_fits hn (show (len + n) * i.bytes ≤ 140737488355328 by omega)
  have hgrow' : ¬ (Builtin.nextslicecap (len + n) cap * i.bytes > 2 ^ 48) := by
    have : (2 : Nat) ^ 48 = 281474976710656 := by decide
    omega
  have hfd := hf w.drew rfl
  have hod := ho w.drew rfl
  unfold Builtin.append_
  simp only [List.getElem?_toArray, List.getElem?_cons_zero, List.getElem?_cons_succ]
  simp only [Sem.run_bind, run_underlying hu, Result.andThen_ok, hsz]
  simp only [run_underlying hx, Result.andThen_ok]
  cases d <;> first | exact absurd rfl (hd _) | skip
  all_goals
    simp only [Sem.run_pure, Result.andThen_ok, Bool.false_eq_true, if_false, hl, hng, Sem.run_bind, hti, hb, false_or, and_false, Bool.not_false, if_true]
    rw [if_neg hgrow']
    simp only [Sem.run_bind, hch, Result.andThen_ok, hti, run_askRoom, hod, hfd, hze, newRow, run_newObj, Sem.run_pure]
    rfl

end
end Go.Rh

/- append over the abstract heap is right. -/
namespace Go.Rh
variable {P : Program}

theorem anewArr_sound {ρ : Ren} {h : Heap} {w : World} (hh : HR ρ h w) {cs : List AV} {need s newCap : Nat} {xs : List Value} {z : Array Value} {e : TypeId} (hc : VRs ρ cs xs) (hl : xs.length = need * s) (hz : z.size = s) (hn : need ≤ newCap)
    {w1 : World} (hw : w1.heap = w.heap) (ho : w1.os = w.os) (hp : w1.output = w.output) (ht : w1.tape = w.tape) (cells : Array Value) (hcells : cells = xs.toArray ++ Builtin.zeroCells z (newCap - need)) :
    ∃ ρ', HR ρ' (anewArr h cs need s e).2 (w1.alloc (.cells cells e)) ∧ Ext ρ w ρ' (w1.alloc (.cells cells e)) ∧ VR ρ' (anewArr h cs need s e).1 (.slice (some ⟨w.heap.size, 0, none⟩) need newCap) := by
  have hh1 : HR ρ h w1 := hh.same hw
  have hsize : cells.size = newCap * s := by
    rw [hcells]
    simp only [Array.size_append, List.size_toArray, zeroCells_size, hl, hz]
    rw [← Nat.add_mul]; congr 1; omega
  have hcl := hc.length
  have hns : need * s ≤ newCap * s := Nat.mul_le_mul_right _ hn
  have htake : cells.toList.take cs.length = xs := by
    rw [hcells, hcl]; simp
  let i : BI := { blk := w.heap.size, size := newCap * s, ext := cs.length, exact := false }
  have hle := Ren.le_upd i hh.fresh_none
  obtain ⟨h1, h2⟩ := hh1.push (.cells cs false e) i (by rw [hw]) (.cells cells e)
    ⟨cells, (0, 0), rfl, hsize, rfl, rfl, by intro h; (cases h), by rw [hsize, hcl, hl]; exact hns, by rw [htake]; exact VRs.mono hle hc, fun j _ => by simp⟩
  refine ⟨_, h1, (Ext.same hw ho hp ht).trans h2, ⟨i, newCap, Ren.upd_same _ _ _, ?_, rfl⟩⟩
  unfold CapOK
  rw [if_neg (by simp [i, hcl, hl])]
  exact ⟨hn, by simp [i]⟩

theorem aappend_sound {ρ : Ren} {h h' : Heap} {w : World} (hh : HR ρ h w) {st xt ty : TypeId} {sl x v : AV} (hv : aappend P h st xt sl x = some (v, h')) {cs cx : Value} (hs : VR ρ sl cs) (hx : VR ρ x cx) :
    ∃ c w' ρ', (Builtin.append_ #[st, xt] ty #[cs, cx]).run P w = .ok c w' ∧ HR ρ' h' w' ∧ Ext ρ w ρ' w' ∧ VR ρ' v c := by
  unfold aappend at hv
  split at hv
  · cases hv
  · rename_i e d hnotint hu hxt
    have hd : ∀ k, d ≠ .int k := fun k e => hnotint k e
    split at hv
    · rename_i i zs hi hz
      split at hv
      · rename_i news n hzl hi0 hb0 hnews
        have hzl := Nat.eq_of_beq_eq_true hzl
        have hi0 : i.size ≠ 0 := fun e => by rw [e] at hi0; cases hi0
        have hb0 : i.bytes ≠ 0 := fun e => by rw [e] at hb0; cases hb0
        obtain ⟨z, hz1, hz2⟩ : ∃ z, i.zero = some z ∧ VRs ρ zs z.cells.toList := by
          unfold azero at hz
          rw [hi] at hz
          simp only at hz
          split at hz
          · rename_i z hzz; exact ⟨z, hzz, cavs_sound ρ _ hz⟩
          · cases hz
        have hzs : z.cells.size = i.size := by rw [← hzl, hz2.length]; rfl
        obtain ⟨xs, hx1, hx2, hx3, hx4⟩ := anews_sound (P := P) hh hnews hx
        split at hv
        · simp only [VR] at hs; subst hs
          split at hv
          · simp only [Option.some.injEq, Prod.mk.injEq] at hv
            obtain ⟨rfl, rfl⟩ := hv
            refine ⟨_, w, ρ, ?_, hh, Ext.refl _ _, rfl⟩
            rw [append_in hu hxt hd hi w hx3 (hx4 w rfl) (by omega)]
            simp
          · rename_i m
            split at hv
            · rename_i hfit
              have hfit := Nat.le_of_ble_eq_true hfit
              simp only [Option.some.injEq] at hv
              obtain ⟨newCap, hge, hrun⟩ := append_grow (ty := ty) hu hxt hd hi w (base := none) (len := 0) (cap := 0) hx3 hx4 (olds := []) (fun w' _ => rfl) hz1 hb0 (by omega) (by simpa using hfit)
              rw [Nat.zero_add] at hge hrun
              obtain ⟨ρ', h1, h2, h3⟩ := anewArr_sound (e := e) hh hx1 hx2 hzs hge (w1 := w.drew) rfl rfl rfl rfl _ rfl
              rw [hv] at h1 h3
              exact ⟨_, _, ρ', by rw [hrun]; simp, h1, h2, h3⟩
            · cases hv
        · obtain ⟨a, k', rfl⟩ := hs
          split at hv
          · simp only [Option.some.injEq, Prod.mk.injEq] at hv
            obtain ⟨rfl, rfl⟩ := hv
            refine ⟨.slice (some a) 0 k', w, ρ, ?_, hh, Ext.refl _ _, ⟨a, k', rfl⟩⟩
            have : xs = [] := by simpa using hx2
            subst this
            rw [append_in hu hxt hd hi w hx3 (hx4 w rfl) (by omega)]
            simp [storeCells]
          · cases hv
        · rename_i l off len cap es
          obtain ⟨j, k', hj, hc, rfl⟩ := hs
          have hk : cap ≤ k' := by unfold CapOK at hc; split at hc <;> omega
          split at hv
          · cases hv
          · rename_i hes
            have hes := Nat.eq_of_beq_eq_true hes
            subst hes
            split at hv
            · rename_i hle
              have hle := Nat.le_of_ble_eq_true hle
              split at hv
              · rename_i h1 hst
                simp only [fN_eq, Option.some.injEq, Prod.mk.injEq] at hv
                obtain ⟨rfl, rfl⟩ := hv
                obtain ⟨w', hr, a1, a2⟩ := mem_storeN (P := P) hh hj hst hx1
                refine ⟨.slice (some ⟨j.blk, off, none⟩) (len + n) k', w', ρ, ?_, a1, a2, ⟨j, k', hj, hc, rfl⟩⟩
                rw [append_in hu hxt hd hi w hx3 (hx4 w rfl) (by omega)]
                simp only [addr_add, hr, Result.andThen_ok]
              · cases hv
            · rename_i hnle
              have hnle : cap < len + n := by
                apply Nat.lt_of_not_le
                intro hle
                have := Nat.ble_eq_true_of_le hle
                rw [this] at hnle; cases hnle
              split at hv
              · rename_i olds cs' ex elem hfit hol hg
                have hfit := Nat.le_of_ble_eq_true hfit
                obtain ⟨os, ho1, ho2, ho3⟩ := mem_loadN2 (P := P) hh hj hol
                obtain ⟨c, fz, g1, g2, g3, g4, g6, g7, g8, g9⟩ := (hh.obj l j hj).2 _ hg
                -- the new array, where the old one is full
                have grow : k' < len + n → ∃ newCap, len + n ≤ newCap ∧ (Builtin.append_ #[st, xt] ty #[.slice (some ⟨j.blk, off, none⟩) len k', cx]).run P w =
                    .ok (.slice (some ⟨w.heap.size, 0, none⟩) (len + n) newCap) (w.drew.alloc (.cells (os.toArray ++ xs.toArray ++ Builtin.zeroCells z.cells (newCap - (len + n))) e)) := fun hlt =>
                  append_grow (ty := ty) hu hxt hd hi w hx3 hx4 (fun w' hw => by simp only [Builtin.firstCells]; exact ho3 w' hw) hz1 hb0 hlt hfit
                have hlen2 : (os ++ xs).length = (len + n) * i.size := by rw [List.length_append, ho2, hx2, Nat.add_mul]
                split at hv
                · rename_i hcond
                  simp only [fN_eq, Option.some.injEq] at hv
                  have hk' : k' = cap := by
                    unfold CapOK at hc
                    rw [if_pos] at hc
                    · exact hc
                    · rcases Bool.or_eq_true_iff.1 hcond with h1 | h1
                      · exact .inl (by rw [g4, h1])
                      · exact .inr (by rw [g3]; exact blt_lt h1)
                  obtain ⟨newCap, hge, hrun⟩ := grow (by omega)
                  obtain ⟨ρ', h1, h2, h3⟩ := anewArr_sound (e := e) hh (ho1.append hx1) hlen2 hzs hge (w1 := w.drew) rfl rfl rfl rfl _ rfl
                  rw [hv] at h1 h3
                  exact ⟨_, _, ρ', by rw [hrun]; simp, h1, h2, h3⟩
                · rename_i hcond
                  split at hv
                  · rename_i hoff hfull hone hel
                    have hel := Nat.eq_of_beq_eq_true hel
                    subst hel
                    have hoff := Nat.eq_of_beq_eq_true hoff
                    have hfull := Nat.eq_of_beq_eq_true hfull
                    subst hoff
                    simp only [fN_eq, Option.some.injEq, Prod.mk.injEq] at hv
                    obtain ⟨rfl, rfl⟩ := hv
                    have holds : olds = cs' := by
                      unfold aloadN at hol
                      rw [hg] at hol
                      obtain ⟨rfl, _⟩ := takeN_eq hol
                      simp [hfull]
                    subst holds
                    by_cases hroom : len + n ≤ k'
                    · -- in place
                      have hnc : ¬ (j.exact = true ∨ 0 + cap * i.size < j.ext) := by
                        intro h1
                        rw [g4, g3] at h1
                        rcases h1 with h1 | h1
                        · rw [h1] at hcond; cases hcond
                        · have : Nat.blt (0 + cap * i.size) olds.length = true := Nat.ble_eq_true_of_le h1
                          rw [this, Bool.or_true] at hcond; cases hcond
                      unfold CapOK at hc
                      rw [if_neg hnc] at hc
                      have hfits : len * i.size + xs.length ≤ c.size := by
                        rw [hx2, ← Nat.add_mul, g2]
                        have := Nat.mul_le_mul_right i.size hroom
                        omega
                      have hone' : ∀ x ∈ xs, x.oneCell' = true := by
                        intro y hy
                        obtain ⟨m, hm⟩ := List.mem_iff_getElem?.1 hy
                        have hml : m < news.length := by rw [hx1.length]; exact (List.getElem?_eq_some_iff.1 hm).1
                        obtain ⟨y', hy', hr⟩ := hx1.get (List.getElem?_eq_getElem hml)
                        rw [hm] at hy'; cases hy'
                        exact hr.oneCell (List.all_eq_true.1 hone _ (List.getElem_mem hml))
                      have hst := run_storeCells (P := P) j.blk (len * i.size) elem fz xs 0 w c g1 (by omega) g9 hone'
                      let j' : BI := { blk := j.blk, size := j.size, ext := (olds ++ news).length, exact := false }
                      have hlt : j.blk < w.heap.size := (hh.obj l j hj).1
                      have hos : os = c.toList.take (len * i.size) := by
                        have := ho3 w rfl
                        have h2 := run_loadCells_list (P := P) w ⟨j.blk, 0, none⟩ (c.toList.take (len * i.size)) (fun m y hm => by
                          rw [addr_add, cell_of_row w _ _ c elem fz g1]
                          rw [List.getElem?_take] at hm
                          split at hm
                          · simpa using hm
                          · cases hm)
                        have hl3 : (c.toList.take (len * i.size)).length = len * i.size := by simp; omega
                        rw [hl3] at h2
                        rw [h2] at this
                        simp only [Result.ok.injEq, and_true] at this
                        exact (by simpa using this.symm)
                      have hnewcells : (setN (len * i.size) xs c.toList).take (olds ++ news).length = os ++ xs := by
                        have e1 : (olds ++ news).length = len * i.size + xs.length := by rw [List.length_append, hx1.length, hfull]
                        rw [e1, hos]
                        have gen : ∀ (xs : List Value) (off : Nat) (l : List Value), off + xs.length ≤ l.length → (setN off xs l).take (off + xs.length) = l.take off ++ xs := by
                          intro xs
                          induction xs with
                          | nil => intro off l _; simp [setN]
                          | cons y ys ih =>
                            intro off l hl
                            simp only [List.length_cons] at hl
                            simp only [setN, List.length_cons]
                            have := ih (off + 1) (l.set off y) (by simp; omega)
                            rw [show off + (ys.length + 1) = off + 1 + ys.length from by omega, this]
                            have : (l.set off y).take (off + 1) = l.take off ++ [y] := by
                              rw [List.take_succ_eq_append_getElem (by simp; omega)]
                              simp
                              rw [List.take_set, List.set_eq_of_length_le (by simp; omega)]
                            rw [this]; simp
                        exact gen xs _ _ (by simpa using hfits)
                      obtain ⟨m1, m2⟩ := hh.move (w' := { w with heap := w.heap.setIfInBounds j.blk (.cells ⟨setN (len * i.size + 0) xs c.toList⟩ elem fz) }) hj hg (o' := .cells (olds ++ news) false elem) j' rfl (by simp)
                        (fun b hb => Array.getElem?_setIfInBounds_ne (Ne.symm hb))
                        (by
                          rw [Array.getElem?_setIfInBounds_self_of_lt hlt]
                          refine ⟨_, fz, rfl, ?_, rfl, rfl, (by intro h; cases h), ?_, ?_, ?_⟩
                          · simpa [length_setN] using g2
                          · have : (olds ++ news).length = len * i.size + xs.length := by rw [List.length_append, hx1.length, hfull]
                            rw [this]; simpa [length_setN] using hfits
                          · rw [Nat.add_zero, hnewcells]
                            exact VRs.mono (Ren.le_upd j' hh.fresh_none) (ho1.append hx1)
                          · simpa [length_setN] using g9) rfl rfl rfl
                      refine ⟨.slice (some ⟨j.blk, 0, none⟩) (len + n) k', _, _, ?_, m1, m2, ⟨j', k', Ren.upd_same _ _ _, ?_, rfl⟩⟩
                      · rw [append_in hu hxt hd hi w hx3 (hx4 w rfl) hroom]
                        simp only [addr_add, Nat.zero_add, hst, Result.andThen_ok]
                      · unfold CapOK
                        have : (olds ++ news).length = (len + n) * i.size := by rw [List.length_append, hx1.length, hx2, ← hfull, Nat.add_mul]
                        rw [if_neg (by simp only [j', this]; simp)]
                        exact ⟨hroom, by simp only [j']; omega⟩
                    · -- a new array; the old one is given up
                      obtain ⟨newCap, hge, hrun⟩ := grow (by omega)
                      obtain ⟨ρ', h1, h2, h3⟩ := anewArr_sound (e := elem) hh (ho1.append hx1) hlen2 hzs hge (w1 := w.drew) rfl rfl rfl rfl _ rfl
                      refine ⟨_, _, ρ', by rw [hrun]; simp, ?_, h2, h3⟩
                      have hne : l ≠ h.next := fun e => by have := hh.fresh_none; rw [← e, hj] at this; cases this
                      have hmono : ∀ p o, T.get p (T.set (some (.cells (olds ++ news) false elem)) h.next (T.set none l h.m)) = some o → T.get p (anewArr h (olds ++ news) (len + n) i.size elem).2.m = some o := by
                        intro p o hp
                        simp only [anewArr, Heap.push]
                        by_cases ep : h.next = p
                        · subst ep; rw [T.get_set_same] at hp ⊢; exact hp
                        · rw [T.get_set_other _ _ _ _ ep] at hp ⊢
                          by_cases el : l = p
                          · subst el; rw [T.get_set_same] at hp; cases hp
                          · rw [T.get_set_other _ _ _ _ el] at hp; exact hp
                      exact ⟨fun p q hq => ⟨(h1.obj p q hq).1, fun o hp => (h1.obj p q hq).2 o (hmono p o hp)⟩,
                        fun p p' q q' o o' hq hq' hp hp' e => h1.inj p p' q q' o o' hq hq' (hmono p o hp) (hmono p' o' hp') e, h1.fresh, h1.low⟩
                  · cases hv
              · cases hv
        · cases hv
      · cases hv
    · cases hv
  · cases hv

end Go.Rh

/- copy; clear; and the operations that write, together. -/
namespace Go.Rh
variable {P : Program}

theorem bytesOf_take (ρ : Ren) : ∀ (n : Nat) (l : List UInt8), n ≤ l.length → VRs ρ (bytesOf n (strN l)) ((l.take n).map fun b => .int .u8 b.toNat)
  | 0, l, _ => by simp [bytesOf, VRs]
  | n + 1, [], h => by simp at h
  | n + 1, b :: l, h => by
    have hb := b.toNat_lt
    simp only [bytesOf, fN_eq, strN, List.take_succ_cons, List.map_cons]
    have h1 : (b.toNat + 256 * strN l) % 256 = b.toNat := by omega
    have h2 : (b.toNat + 256 * strN l) / 256 = strN l := by omega
    rw [h1, h2]
    exact ⟨_, _, rfl, rfl, bytesOf_take ρ n l (by simpa using h)⟩

/-- The first elements of what is copied. -/
def afirst (h : Heap) (s n : Nat) (x : AV) : Option (List AV) :=
  match x with
  | .str m v => match Nat.beq s 1, Nat.ble n m with | true, true => some (bytesOf n v) | _, _ => none
  | .nilslice => some []
  | .eslice => match n with | 0 => some [] | _ + 1 => none
  | .slice l off _ _ es => match Nat.beq s es with | true => aloadN h l off (n * s) | false => none
  | _ => none
def alenS : AV → Option Nat
  | .str m _ => some m
  | .nilslice => some 0
  | .eslice => some 0
  | .slice _ _ n _ _ => some n
  | _ => none
theorem alenS_sound {ρ : Ren} {x : AV} {n : Nat} (h : alenS x = some n) {cx : Value} (hx : VR ρ x cx) (w : World) : (Builtin.lenOf cx).run P w = .ok n w := by
  unfold alenS at h
  split at h <;> simp only [Option.some.injEq, reduceCtorEq] at h <;> subst h
  · obtain ⟨s, rfl, rfl, _⟩ := hx; rfl
  · simp only [VR] at hx; subst hx; rfl
  · obtain ⟨a, k, rfl⟩ := hx; rfl
  · obtain ⟨i, k, _, _, rfl⟩ := hx; rfl
theorem afirst_sound {ρ : Ren} {h : Heap} {w : World} (hh : HR ρ h w) {s n : Nat} {x : AV} {vs : List AV} (hv : afirst h s n x = some vs) {cx : Value} (hx : VR ρ x cx) :
    ∃ xs : List Value, VRs ρ vs xs ∧ (Builtin.firstCells s n cx).run P w = .ok xs.toArray w := by
  unfold afirst at hv
  split at hv
  · split at hv
    · rename_i m v he hle
      have hle := Nat.le_of_ble_eq_true hle
      simp only [Option.some.injEq] at hv; subst hv
      obtain ⟨l, rfl, rfl, rfl⟩ := VR_str.1 hx
      refine ⟨_, bytesOf_take ρ n l hle, ?_⟩
      have : ((⟨l.toArray⟩ : ByteArray).extract 0 n).data = (l.take n).toArray := by
        rw [ByteArray.extract_mk]; simp
      simp only [Builtin.firstCells, this]
      simp
    · cases hv
  · simp only [Option.some.injEq] at hv; subst hv
    simp only [VR] at hx; subst hx
    exact ⟨[], rfl, rfl⟩
  · split at hv
    · simp only [Option.some.injEq] at hv; subst hv
      obtain ⟨a, k', rfl⟩ := hx
      exact ⟨[], rfl, by simp [Builtin.firstCells, loadCells, loadCellsFrom]⟩
    · cases hv
  · split at hv
    · obtain ⟨i, k', hi, hc, rfl⟩ := hx
      obtain ⟨xs, h1, h2⟩ := mem_loadN (P := P) hh hi hv
      exact ⟨xs, h2, by simp only [Builtin.firstCells]; exact h1⟩
    · cases hv
  · cases hv

def acopy (P : Program) (h : Heap) (dt : TypeId) (d x : AV) : Option (AV × Heap) :=
  match P.underlying dt, alenS x with
  | some (.slice e), some m =>
    match szT P e with
    | none => none
    | some s =>
      match d with
      | .nilslice => match afirst h s 0 x with | some [] => some (.int .i64 (.ofNat 0), h) | _ => none
      | .slice l off n _ es => match Nat.beq es s with
        | true => match afirst h s (Nat.min m n) x with
          | some vs => match astoreN h l off vs with
            | some h' => some (fN (Nat.min m n) fun k => .int .i64 (.ofNat k), h')
            | none => none
          | none => none
        | false => none
      | _ => none
  | _, _ => none
theorem acopy_sound {ρ : Ren} {h h' : Heap} {w : World} (hh : HR ρ h w) {dt xt ty : TypeId} {d x v : AV} (hv : acopy P h dt d x = some (v, h')) {cd cx : Value} (hd : VR ρ d cd) (hx : VR ρ x cx) :
    ∃ c w', (Builtin.copy_ #[dt, xt] ty #[cd, cx]).run P w = .ok c w' ∧ HR ρ h' w' ∧ Ext ρ w ρ w' ∧ VR ρ v c := by
  unfold acopy at hv
  split at hv
  · rename_i e m hu hm
    have hlen := fun w => alenS_sound (P := P) hm hx w
    split at hv
    · cases hv
    · rename_i s hs
      have hs' := fun w => run_sizeOf hs w
      split at hv
      · simp only [VR] at hd; subst hd
        split at hv
        · rename_i hf
          simp only [Option.some.injEq, Prod.mk.injEq] at hv
          obtain ⟨rfl, rfl⟩ := hv
          obtain ⟨xs, h1, h2⟩ := afirst_sound (P := P) hh hf hx
          refine ⟨_, w, ?_, hh, Ext.refl _ _, rfl⟩
          simp [Builtin.copy_, run_underlying hu, hlen, hs', h2, goInt]
        · cases hv
      · rename_i l off n cap es
        split at hv
        · split at hv
          · rename_i vs hf
            split at hv
            · rename_i h1 hst
              simp only [fN_eq, Option.some.injEq, Prod.mk.injEq] at hv
              obtain ⟨rfl, rfl⟩ := hv
              obtain ⟨i, k', hi, hc, rfl⟩ := hd
              obtain ⟨xs, h1, h2⟩ := afirst_sound (P := P) hh hf hx
              obtain ⟨w', hr, a1, a2⟩ := mem_storeN (P := P) hh hi hst h1
              refine ⟨_, w', ?_, a1, a2, rfl⟩
              have h2' : (Builtin.firstCells s (m.min n) cx).run P w = .ok xs.toArray w := h2
              simp only [Builtin.copy_, List.getElem?_toArray, List.getElem?_cons_zero, List.getElem?_cons_succ]
              simp only [Sem.run_bind, run_underlying hu, Result.andThen_ok, hlen, hs', h2', hr, Sem.run_pure, goInt]
              rfl
            · cases hv
          · cases hv
        · cases hv
      · cases hv
  · cases hv

def aclear (P : Program) (h : Heap) (t : TypeId) (x : AV) : Option Heap :=
  match x, P.underlying t with
  | .nilslice, some (.slice _) => some h
  | .eslice, some (.slice _) => some h
  | .slice l off n _ es, some (.slice e) => match n with
    | 0 => some h
    | n + 1 => match azero P e with
      | some zs => match Nat.beq zs.length 0, Nat.beq zs.length es with
        | false, true => astoreN h l off (azeros ((n + 1) * zs.length) zs)
        | _, _ => none
      | none => none
  | _, _ => none
theorem aclear_sound {ρ : Ren} {h h' : Heap} {w : World} (hh : HR ρ h w) {t ty : TypeId} {x : AV} (hv : aclear P h t x = some h') {cx : Value} (hx : VR ρ x cx) :
    ∃ w', (Builtin.clear_ #[t] ty #[cx]).run P w = .ok (.tuple #[]) w' ∧ HR ρ h' w' ∧ Ext ρ w ρ w' := by
  unfold aclear at hv
  split at hv
  · rename_i e hu
    simp only [Option.some.injEq] at hv; subst hv
    simp only [VR] at hx; subst hx
    exact ⟨w, by simp [Builtin.clear_, run_underlying hu], hh, Ext.refl _ _⟩
  · rename_i e hu
    simp only [Option.some.injEq] at hv; subst hv
    obtain ⟨a, k', rfl⟩ := hx
    exact ⟨w, by simp [Builtin.clear_, run_underlying hu], hh, Ext.refl _ _⟩
  · rename_i l off n cap es e hu
    obtain ⟨i, k', hi, hc, rfl⟩ := hx
    split at hv
    · simp only [Option.some.injEq] at hv; subst hv
      exact ⟨w, by simp [Builtin.clear_, run_underlying hu], hh, Ext.refl _ _⟩
    · rename_i n
      split at hv
      · rename_i zs hz
        split at hv
        · rename_i h0 hes
          have h0 : zs.length ≠ 0 := fun e => by rw [e] at h0; cases h0
          obtain ⟨z, hz1, hz2⟩ := azero_sound ρ hz
          have hsz : z.cells.size = zs.length := by rw [hz2.length]; rfl
          have hzs := azeros_sound hz2 ((n + 1) * zs.length) (.inr h0)
          obtain ⟨w', hr, a1, a2⟩ := mem_storeN (P := P) hh hi hv hzs
          refine ⟨w', ?_, a1, a2⟩
          simp only [Builtin.clear_, List.getElem?_toArray, List.getElem?_cons_zero]
          simp only [Sem.run_bind, run_underlying hu, Result.andThen_ok, hz1]
          rw [show Builtin.zeroCells z.cells (n + 1) = ((Array.range ((n + 1) * zs.length)).map fun j => z.cells[j % z.cells.size]!) by rw [← hsz]; rfl]
          rw [hr]; rfl
        · cases hv
      · cases hv
  · cases hv

/-- A slice as a pointer. -/
def ausd (x : AV) : Option AV := match x with
  | .nilslice => some .nilptr
  | .slice l off _ (_ + 1) _ => some (.ptr l off)
  | _ => none
theorem ausd_sound {ρ : Ren} {x v : AV} (hv : ausd x = some v) {cx : Value} (hx : VR ρ x cx) (ts : Array TypeId) (ty : TypeId) (w : World) : ∃ c, (Builtin.unsafeSliceData_ ts ty #[cx]).run P w = .ok c w ∧ VR ρ v c := by
  unfold ausd at hv
  split at hv
  · simp only [Option.some.injEq] at hv; subst hv
    simp only [VR] at hx; subst hx
    exact ⟨_, Lib.run_unsafeSliceData_nil w ts ty 0 0, rfl⟩
  · rename_i l off n cap es
    simp only [Option.some.injEq] at hv; subst hv
    obtain ⟨i, k', hi, hc, rfl⟩ := hx
    have hk : k' ≠ 0 := by
      unfold CapOK at hc
      split at hc
      · omega
      · omega
    exact ⟨_, Lib.run_unsafeSliceData_row w ts ty _ _ _ hk, i, hi, rfl⟩
  · cases hv

/-- Bytes as a string: the bytes are given up. -/
def austr (P : Program) (h : Heap) (pt : TypeId) (p n : AV) : Option (AV × Heap) :=
  match n with
  | .int .i64 (.ofNat 0) => match p with
    | .nilptr => some (.str 0 0, h)
    | .ptr _ _ => some (.str 0 0, h)
    | _ => none
  | .int .i64 (.ofNat (m + 1)) => match p with
    | .ptr l 0 => match T.get l h.m, P.underlying pt, aloadN h l 0 (m + 1) with
      | some (.cells _ _ el), some (.pointer e), some vs => match Nat.beq el e, Nat.beq (P.cellsOf e) 1, Nat.ble (m + 1) 9223372036854775807, bytesN vs with
        | true, true, true, some v => T.setK h.m l none fun mm => some (fN v fun v => .str (m + 1) v, ⟨h.next, mm⟩)
        | _, _, _, _ => none
      | _, _, _ => none
    | _ => none
  | _ => none
theorem austr_sound {ρ : Ren} {h h' : Heap} {w : World} (hh : HR ρ h w) {pt it ty : TypeId} {p n v : AV} (hv : austr P h pt p n = some (v, h')) {cp cn : Value} (hp : VR ρ p cp) (hn : VR ρ n cn) :
    ∃ c w', (Builtin.unsafeString_ #[pt, it] ty #[cp, cn]).run P w = .ok c w' ∧ HR ρ h' w' ∧ Ext ρ w ρ w' ∧ VR ρ v c := by
  unfold austr at hv
  split at hv
  · simp only [VR] at hn; subst hn
    split at hv
    · simp only [Option.some.injEq, Prod.mk.injEq] at hv
      obtain ⟨rfl, rfl⟩ := hv
      simp only [VR] at hp; subst hp
      exact ⟨_, w, Lib.run_unsafeString_none w pt it ty none, hh, Ext.refl _ _, .empty, rfl, rfl, rfl⟩
    · simp only [Option.some.injEq, Prod.mk.injEq] at hv
      obtain ⟨rfl, rfl⟩ := hv
      obtain ⟨i, hi, rfl⟩ := hp
      exact ⟨_, w, Lib.run_unsafeString_none w pt it ty _, hh, Ext.refl _ _, .empty, rfl, rfl, rfl⟩
    · cases hv
  · rename_i m
    simp only [VR] at hn; subst hn
    split at hv
    · rename_i l
      obtain ⟨i, hi, rfl⟩ := hp
      split at hv
      · rename_i cs ex el e vs hg hu hl
        split at hv
        · rename_i u h1 h2 h3 hb
          have h1 := Nat.eq_of_beq_eq_true h1
          have h2 := Nat.eq_of_beq_eq_true h2
          have h3 := Nat.le_of_ble_eq_true h3
          subst h1
          rw [T.setK_eq] at hv
          simp only [fN_eq, Option.some.injEq, Prod.mk.injEq] at hv
          obtain ⟨rfl, rfl⟩ := hv
          obtain ⟨hlt, hob⟩ := hh.obj l i hi
          obtain ⟨c, fz, hblk, hsz, _, _, _, hcl, hvs, _⟩ := hob _ hg
          have hcs : vs = cs.take (m + 1) ∧ m + 1 ≤ cs.length := by
            unfold aloadN at hl
            rw [hg] at hl
            simpa using takeN_eq hl
          obtain ⟨rfl, hlen⟩ := hcs
          have hvs' : VRs ρ (cs.take (m + 1)) ((c.toList.take cs.length).take (m + 1)) := hvs.take (m + 1)
          obtain ⟨bl, hbl, hbv⟩ := bytesN_sound hb hvs'
          have hbl' : c.toList.take (m + 1) = bl.map fun b => Value.int .u8 b.toNat := by
            rw [List.take_take, Nat.min_eq_left hlen] at hbl; exact hbl
          have hblen : bl.length = m + 1 := by
            have := congrArg List.length hbl'
            simp only [List.length_take, List.length_map, Array.length_toList] at this
            omega
          have hcell : ∀ j x, bl[j]? = some x → w.cell? ((⟨i.blk, 0, none⟩ : Addr).add j) = some (.int .u8 x.toNat) := by
            intro j x hx
            have hj : j < m + 1 := by rw [← hblen]; exact (List.getElem?_eq_some_iff.1 hx).1
            rw [addr_add, Nat.zero_add]
            have : c.toList[j]? = some (.int .u8 x.toNat) := by
              have h5 := congrArg (·[j]?) hbl'
              simp only [List.getElem?_take, hj, if_true, List.getElem?_map, hx, Option.map_some] at h5
              exact h5
            simp only [World.cell?, hblk, Array.getElem?_toList] at this ⊢
            exact this
          have hrun := Lib.run_unsafeString_row (P := P) w pt it ty el hu h2 i.blk c.size (by simp [World.shape?, hblk]) bl (by intro e; rw [e] at hblen; simp at hblen) (by omega) (by omega) hcell
          rw [hblen] at hrun
          refine ⟨_, w.freeze ⟨i.blk, 0, none⟩ (m + 1), hrun, hh.drop hi hg ?_ ?_, Ext.upd hi ?_ ?_ ?_ ?_ ?_, ⟨bl.toArray⟩, rfl, by simp [ByteArray.size, hblen], by simpa using hbv⟩
          all_goals first
            | (simp [World.freeze]; done)
            | (intro b hb; simp only [World.freeze, Nat.add_eq_zero_iff, Nat.one_ne_zero, and_false, if_false]; rw [Array.getElem?_modify]; rw [if_neg (Ne.symm hb)])
        · cases hv
      · cases hv
    · cases hv
  · cases hv

/-- What an operation that writes gives, and the heap behind it. -/
def aeff (P : Program) (t : T AV) (h : Heap) (op : Op) : Option (AV × Heap) :=
  match op with
  | .store ty x y => match aopd t x, aopd t y, szT P ty with
    | some (.ptr l off), some v, some n => match Nat.beq v.cells.length n, notTuple v with
      | true, true => match astoreN h l off v.cells with | some h' => some (.tuple [], h') | none => none
      | _, _ => none
    | _, _, _ => none
  | .mapUpdate ty m k v => match aopd t m, aopd t k, aopd t v with
    | some m, some k, some v => match amapSet P h ty m k v with | some h' => some (.tuple [], h') | none => none
    | _, _, _ => none
  | .insert ty m k v => match aopd t m, aopd t k, aopd t v with
    | some m, some k, some v => match amapSet P h ty m k v with | some h' => some (.tuple [], h') | none => none
    | _, _, _ => none
  | .call c => match c.callee, c.args.toList, c.argTypes.toList with
    | .builtin .append, [x, y], [tx, ty] => match aopd t x, aopd t y with | some u, some v => aappend P h tx ty u v | _, _ => none
    | .builtin .copy, [x, y], [tx, _] => match aopd t x, aopd t y with | some u, some v => acopy P h tx u v | _, _ => none
    | .builtin .delete, [x, y], [tx, _] => match aopd t x, aopd t y with
      | some u, some v => (match amapDel P h tx u v with | some h' => some (.tuple [], h') | none => none)
      | _, _ => none
    | .builtin .clear, [x], [tx] => match aopd t x with | some u => (match aclear P h tx u with | some h' => some (.tuple [], h') | none => none) | none => none
    | .builtin .unsafeSliceData, [x], _ => match aopd t x with | some u => (match ausd u with | some v => some (v, h) | none => none) | none => none
    | .builtin .unsafeString, [x, y], [tx, _] => match aopd t x, aopd t y with | some u, some v => austr P h tx u v | _, _ => none
    | _, _, _ => none
  | .range ty x => match aopd t x with | some m => arangeM P h ty m | none => none
  | .next it s => match aopd t it with | some u => anext h u s | none => none
  | .entry it => match aopd t it with | some u => (match aentry h u with | some v => some (v, h) | none => none) | none => none
  | _ => none

theorem arr2 {α : Type} {x y : α} {c : Array α} (h : c.toList = [x, y]) : c = #[x, y] := by
  cases c with | mk l => simp only at h; subst h; rfl

theorem aeff_sound {ρ : Ren} {nt : Nat} {t : T AV} {a : Act} (ht : TmpR ρ nt t a.tmps) {h h' : Heap} {w : World} (hh : HR ρ h w) {o : Oper} {v : AV} (hv : aeff P t h o.op = some (v, h')) :
    ∃ nx c w' ρ', (execOp a.eval o).run P w = .ok nx w' ∧ (nx = .value c ∨ nx = .skip ∧ c = undef) ∧ HR ρ' h' w' ∧ Ext ρ w ρ' w' ∧ VR ρ' v c := by
  have tup : VR ρ (.tuple []) undef := ⟨#[], rfl, rfl⟩
  unfold aeff at hv
  split at hv
  · rename_i ty x y ho
    split at hv
    · rename_i l off u n hx hy hn
      split at hv
      · rename_i hl hnt
        have hl := Nat.eq_of_beq_eq_true hl
        split at hv
        · rename_i h1 hst
          simp only [Option.some.injEq, Prod.mk.injEq] at hv
          obtain ⟨rfl, rfl⟩ := hv
          obtain ⟨i, hi, he⟩ := aopd_sound ht hx
          have hy := aopd_sound ht hy
          have hc := hy.cells' hnt
          obtain ⟨w', hr, a1, a2⟩ := mem_storeN (P := P) hh hi hst hc
          have hsz : (a.eval y).cells.size = n := by rw [← hl, hc.length]; rfl
          refine ⟨.skip, _, w', ρ, ?_, .inr ⟨rfl, rfl⟩, a1, a2, tup⟩
          simp [execOp, ho, he, Instr.storeAt, Instr.sureAddr, storeVar, run_sizeOf hn, hsz, hr]
        · cases hv
      · cases hv
    · cases hv
  · rename_i ty m k u ho
    split at hv
    · rename_i m' k' v' hm hk hvv
      split at hv
      · rename_i h1 hs
        simp only [Option.some.injEq, Prod.mk.injEq] at hv
        obtain ⟨rfl, rfl⟩ := hv
        obtain ⟨w', hr, a1, a2⟩ := amapSet_sound hh hs (aopd_sound ht hm) (aopd_sound ht hk) (aopd_sound ht hvv)
        exact ⟨.skip, _, w', ρ, by simp [execOp, ho, hr], .inr ⟨rfl, rfl⟩, a1, a2, tup⟩
      · cases hv
    · cases hv
  · rename_i ty m k u ho
    split at hv
    · rename_i m' k' v' hm hk hvv
      split at hv
      · rename_i h1 hs
        simp only [Option.some.injEq, Prod.mk.injEq] at hv
        obtain ⟨rfl, rfl⟩ := hv
        obtain ⟨w', hr, a1, a2⟩ := amapSet_sound hh hs (aopd_sound ht hm) (aopd_sound ht hk) (aopd_sound ht hvv)
        exact ⟨.skip, _, w', ρ, by simp [execOp, ho, hr], .inr ⟨rfl, rfl⟩, a1, a2, tup⟩
      · cases hv
    · cases hv
  · rename_i c ho
    split at hv
    · rename_i x y tx ty hc ha hty
      split at hv
      · rename_i u u' hx hy
        obtain ⟨cv, w', ρ', hr, a1, a2, a3⟩ := aappend_sound (ty := o.type) hh hv (aopd_sound ht hx) (aopd_sound ht hy)
        exact ⟨.value cv, cv, w', ρ', by simp [execOp, ho, resolve, hc, arr2 ha, arr2 hty, invoke, builtin, hr], .inl rfl, a1, a2, a3⟩
      · cases hv
    · rename_i x y tx ty hc ha hty
      split at hv
      · rename_i u u' hx hy
        obtain ⟨cv, w', hr, a1, a2, a3⟩ := acopy_sound (xt := ty) (ty := o.type) hh hv (aopd_sound ht hx) (aopd_sound ht hy)
        exact ⟨.value cv, cv, w', ρ, by simp [execOp, ho, resolve, hc, arr2 ha, arr2 hty, invoke, builtin, hr], .inl rfl, a1, a2, a3⟩
      · cases hv
    · rename_i x y tx ty hc ha hty
      split at hv
      · rename_i u u' hx hy
        split at hv
        · rename_i h1 hs
          simp only [Option.some.injEq, Prod.mk.injEq] at hv
          obtain ⟨rfl, rfl⟩ := hv
          obtain ⟨w', hr, a1, a2⟩ := amapDel_sound (tk := ty) (ty' := o.type) hh hs (aopd_sound ht hx) (aopd_sound ht hy)
          exact ⟨.value (.tuple #[]), _, w', ρ, by simp [execOp, ho, resolve, hc, arr2 ha, arr2 hty, invoke, builtin, hr], .inl rfl, a1, a2, ⟨#[], rfl, rfl⟩⟩
        · cases hv
      · cases hv
    · rename_i x tx hc ha hty
      split at hv
      · rename_i u hx
        split at hv
        · rename_i h1 hs
          simp only [Option.some.injEq, Prod.mk.injEq] at hv
          obtain ⟨rfl, rfl⟩ := hv
          obtain ⟨w', hr, a1, a2⟩ := aclear_sound (ty := o.type) hh hs (aopd_sound ht hx)
          exact ⟨.value (.tuple #[]), _, w', ρ, by simp [execOp, ho, resolve, hc, arr1 ha, arr1 hty, invoke, builtin, hr], .inl rfl, a1, a2, ⟨#[], rfl, rfl⟩⟩
        · cases hv
      · cases hv
    · rename_i x hc ha
      split at hv
      · rename_i u hx
        split at hv
        · rename_i v' hs
          simp only [Option.some.injEq, Prod.mk.injEq] at hv
          obtain ⟨rfl, rfl⟩ := hv
          obtain ⟨cv, hr, a3⟩ := ausd_sound (P := P) hs (aopd_sound ht hx) c.argTypes o.type w
          exact ⟨.value cv, cv, w, ρ, by simp [execOp, ho, resolve, hc, arr1 ha, invoke, builtin, hr], .inl rfl, hh, Ext.refl _ _, a3⟩
        · cases hv
      · cases hv
    · rename_i x y tx ty hc ha hty
      split at hv
      · rename_i u u' hx hy
        obtain ⟨cv, w', hr, a1, a2, a3⟩ := austr_sound (it := ty) (ty := o.type) hh hv (aopd_sound ht hx) (aopd_sound ht hy)
        exact ⟨.value cv, cv, w', ρ, by simp [execOp, ho, resolve, hc, arr2 ha, arr2 hty, invoke, builtin, hr], .inl rfl, a1, a2, a3⟩
      · cases hv
    · cases hv
  · rename_i ty x ho
    split at hv
    · rename_i m hx
      obtain ⟨c, w', ρ', hr, a1, a2, a3⟩ := arangeM_sound hh hv (aopd_sound ht hx)
      exact ⟨.value c, c, w', ρ', by simp [execOp, ho, hr], .inl rfl, a1, a2, a3⟩
    · cases hv
  · rename_i it s ho
    split at hv
    · rename_i u hx
      obtain ⟨c, w', hr, a1, a2, a3⟩ := anext_sound (P := P) (ty := o.type) hh hv (aopd_sound ht hx)
      exact ⟨.value c, c, w', ρ, by simp [execOp, ho, hr], .inl rfl, a1, a2, a3⟩
    · cases hv
  · rename_i it ho
    split at hv
    · rename_i u hx
      split at hv
      · rename_i v' hv'
        simp only [Option.some.injEq, Prod.mk.injEq] at hv
        obtain ⟨rfl, rfl⟩ := hv
        obtain ⟨c, hr, a3⟩ := aentry_sound (P := P) hh hv' (aopd_sound ht hx)
        exact ⟨.value c, c, w, ρ, by simp [execOp, ho, hr], .inl rfl, hh, Ext.refl _ _, a3⟩
      · cases hv
    · cases hv
  · cases hv

end Go.Rh

/- The evaluator: calls, rounds, regions in the text's order, code. -/
namespace Go.Rh

inductive ADef where
  | mark (l : Pos)
  | fn (f : FuncId) (caps args : List AV)

inductive AEx where
  | norm | exit (id : Nat) | ret | panic (v : AV)

structure ASt where
  t : T AV
  ds : List ADef
  h : Heap

inductive Cmd where
  | code (rd : Option Pos) (nt : Nat) (c : Code) (s : ASt)
  | call (f : FuncId) (args : List AV) (h : Heap)
  | dcall (f : FuncId) (args : List AV) (h : Heap)
  | rcall (f : FuncId) (args : List AV) (h : Heap) (v : Option AV)

/-- How a call ends: 'pan': by a panic. -/
inductive Out where
  | code (x : AEx) (s : ASt)
  | call (pan : Bool) (v : AV) (h : Heap)

/-- Known functions, by what they do: tried ahead of their bodies. -/
abbrev Specs := FuncId → List AV → Heap → Option (Bool × AV × Heap)
abbrev Self := Cmd → Option Out

def aput (nt : Nat) (t : T AV) (dst : Option Tmp) (v : AV) : Option (T AV) :=
  match dst with
  | none => some t
  | some d => match Nat.blt d nt with
    | true => T.forceK (T.set (some v) (Pos.ofNat d) t) some
    | false => none

/-- Is an operation to be carried out? -/
def aguard (ops : Array Oper) (o : Oper) (t : T AV) : Option Bool :=
  match o.guard with
  | none => some true
  | some (j, want) => match (ops[j]?).bind (·.dst) with
    | some d => match T.get (Pos.ofNat d) t with
      | some (.bool b) => some (match want with | true => b | false => !b)
      | some (.tuple _) => some false
      | _ => none
    | none => none

def putParams (nt : Nat) : List Tmp → List AV → T AV → Option (T AV)
  | [], [], t => some t
  | p :: ps, v :: vs, t => match aput nt t (some p) v with | some t => putParams nt ps vs t | none => none
  | _, _, _ => none


/-- A round of a range over a function. -/
def around (self : Self) (l : Pos) (args : List AV) (h : Heap) : Option (AV × Heap) :=
  match T.get l h.m with
  | some (.loop .ready _ t nt ps assign body _) =>
    match putParams nt ps.toList args t with
    | none => none
    | some t1 =>
      match self (.code (some l) nt assign ⟨t1, [], h⟩) with
      | some (.code .norm s1) =>
        match s1.ds, T.get l s1.h.m with
        | [], some (.loop .ready j t' nt' ps' assign' body' d') =>
          T.setK s1.h.m l (some (.loop .busy j t' nt' ps' assign' body' d')) fun m1 =>
          match self (.code (some l) nt body ⟨s1.t, [], ⟨s1.h.next, m1⟩⟩) with
          | some (.code x s2) =>
            match T.get l s2.h.m with
            | some (.loop _ _ t2 nt2 ps2 assign2 body2 d2) =>
              match x with
              | .norm => T.setK s2.h.m l (some (.loop .ready none t2 nt2 ps2 assign2 body2 d2)) fun m2 => some (.bool true, ⟨s2.h.next, m2⟩)
              | .ret => T.setK s2.h.m l (some (.loop .done (some .ret) t2 nt2 ps2 assign2 body2 d2)) fun m2 => some (.bool false, ⟨s2.h.next, m2⟩)
              | .exit id => T.setK s2.h.m l (some (.loop .done (some (.exit id)) t2 nt2 ps2 assign2 body2 d2)) fun m2 => some (.bool false, ⟨s2.h.next, m2⟩)
              | .panic _ => none
            | _ => none
          | _ => none
        | _, _ => none
      | _ => none
  | _ => none

/-- A function, the arguments that it brings along ahead of a call's own, and those behind. -/
def afun : AV → Option (FuncId × List AV × List AV)
  | .func g caps => some (g, [], caps)
  | .bfunc g bs => some (g, bs, [])
  | _ => none

/-- The value of a call, and the heap behind it. -/
def acall (self : Self) (f : AV) (args : List AV) (h : Heap) : Option (Bool × AV × Heap) :=
  match f with
  | .func g caps => match self (.call g (args ++ caps) h) with | some (.call b v h') => some (b, v, h') | _ => none
  | .bfunc g bs => match self (.call g (bs ++ args) h) with | some (.call b v h') => some (b, v, h') | _ => none
  | .yield l => match around self l args h with | some (v, h') => some (false, v, h') | none => none
  | _ => none

section
variable (P : Program)

/-- One operation that is carried out: its value (or what it panics with), and the heap behind it. -/
def aop (self : Self) (t : T AV) (h : Heap) (op : Op) : Option (Bool × AV × Heap) :=
  match apure P t op with
  | some v => some (false, v, h)
  | none =>
    match aread P t h op with
    | some v => some (false, v, h)
    | none => match aalloc P t op with
      | some (ob, mk) => h.pushK ob fun h' => some (false, mk h.next, h')
      | none => match aeff P t h op with
        | some (v, h') => some (false, v, h')
        | none => match op with
          | .call c => match c.callee with
            | .value f => match aopd t f, aopds t c.args.toList with
              | some g, some vs => acall self g vs h
              | _, _ => none
            | _ => none
          | .panic x => match aopd t x with
            | some (.iface ty v) => some (true, .iface ty v, h)
            | _ => none
          | _ => none

def adefer (t : T AV) (op : Op) : Option ADef :=
  match op with
  | .defer c => match c.callee with
    | .value f => match aopd t f, aopds t c.args.toList with
      | some (.func g caps), some vs => some (.fn g caps vs)
      | _, _ => none
    | _ => none
  | _ => none

def aops (self : Self) (rd : Option Pos) (nt : Nat) (ops : Array Oper) : List Oper → ASt → Option (AEx × ASt)
  | [], s => some (.norm, s)
  | o :: rest, s =>
    match aguard ops o s.t with
    | none => none
    | some false => match aput nt s.t o.dst (.tuple []) with | some t => aops self rd nt ops rest ⟨t, s.ds, s.h⟩ | none => none
    | some true =>
      match aop P self s.t s.h o.op with
      | some (false, v, h) => match aput nt s.t o.dst v with | some t => aops self rd nt ops rest ⟨t, s.ds, h⟩ | none => none
      | some (true, v, h) => some (.panic v, ⟨s.t, s.ds, h⟩)
      | none => match rd, adefer s.t o.op with
        | none, some d => match aput nt s.t o.dst (.tuple []) with | some t => aops self rd nt ops rest ⟨t, d :: s.ds, s.h⟩ | none => none
        | _, _ => none

/-- The results of a function. -/
def aresult (t : T AV) (h : Heap) : ResultVar → Option AV
  | .tmp i => T.get (Pos.ofNat i) t
  | .cell a ty => match T.get (Pos.ofNat a) t with | some (.ptr l off) => aloadT P h ty l off | _ => none
def aresults (t : T AV) (h : Heap) : List ResultVar → Option (List AV)
  | [] => some []
  | r :: rs => match aresult P t h r, aresults t h rs with | some v, some vs => some (v :: vs) | _, _ => none
def oneOr : List AV → AV
  | [v] => v
  | vs => .tuple vs

/-- A function's way out. -/
def aleave (self : Self) (fn : Func) (t : T AV) : List ADef → Heap → Option (AV × Heap)
  | [], h => match aresults P t h fn.results.toList with | some vs => some (oneOr vs, h) | none => none
  | .mark l :: ds, h => match T.get l h.m with
    | some .dfr => T.setK h.m l none fun m => aleave self fn t ds ⟨h.next, m⟩
    | _ => none
  | .fn f caps args :: ds, h => match self (.dcall f (args ++ caps) h) with
    | some (.call false _ h') => aleave self fn t ds h'
    | _ => match self (.rcall f (args ++ caps) h none) with
      | some (.call false _ h') => aleave self fn t ds h'
      | _ => none

/-- A function's way out by a panic: none, or one that a deferred call recovers. -/
def aleaveP (self : Self) (fn : Func) (t : T AV) (v : AV) : List ADef → Heap → Option (Bool × AV × Heap)
  | [], h => some (true, v, h)
  | .mark _ :: _, _ => none
  | .fn f caps args :: ds, h => match self (.rcall f (args ++ caps) h (some v)) with
    | some (.call false _ h') => match aleave P self fn t ds h' with | some (v, h'') => some (false, v, h'') | none => none
    | _ => none

/-- A function with a body of its own. -/
def afn (f : FuncId) : Option (Func × Code) :=
  match P.funcs[f]? with
  | some fn => match fn.body, decide (fn.name = "runtime.NumGoroutine") with
    | some c, false => some (fn, c)
    | _, _ => none
  | none => none

def argsT : Nat → List AV → T AV → T AV
  | _, [], t => t
  | i, v :: vs, t => T.forceK (T.set (some v) (Pos.ofNat i) t) fun t => argsT (i + 1) vs t

/-- Regions that draw their order: another text's. -/
abbrev Draws := Self → Option Pos → Nat → Array Oper → ASt → Option (AEx × ASt)

/-- A range over a function, called. -/
def arange (self : Self) (s : ASt) (ds : List ADef) (g : FuncId) (pre caps : List AV) (l : Pos) (h : Heap) : Option Out :=
  match self (.call g (pre ++ .yield l :: caps) h) with
  | some (.call false _ h3) => match T.get l h3.m with
    | some (.loop .busy _ _ _ _ _ _ _) => none
    | some (.loop _ j t nt ps assign body d) => T.setK h3.m l (some (.loop .exhausted j t nt ps assign body d)) fun m =>
      match j with
      | none => some (.code .norm ⟨s.t, ds, ⟨h3.next, m⟩⟩)
      | some .ret => some (.code .ret ⟨s.t, ds, ⟨h3.next, m⟩⟩)
      | some (.exit id) => some (.code (.exit id) ⟨s.t, ds, ⟨h3.next, m⟩⟩)
    | _ => none
  | _ => none

def acode (dr : Draws) (self : Self) (rd : Option Pos) (nt : Nat) (c : Code) (s : ASt) : Option Out :=
  match c with
  | .skip => some (.code .norm s)
  | .label _ => some (.code .norm s)
  | .region _ ops false => match aops P self rd nt ops ops.toList s with | some (x, s') => some (.code x s') | none => none
  | .region _ ops true => match dr self rd nt ops s with | some (x, s') => some (.code x s') | none => none
  | .seq a b => match self (.code rd nt a s) with
    | some (.code .norm s') => self (.code rd nt b s')
    | some (.code x s') => some (.code x s')
    | _ => none
  | .cond c a b => match aopd s.t c with
    | some (.bool true) => match self (.code rd nt a s) with | some (.code x s') => some (.code x s') | _ => none
    | some (.bool false) => match self (.code rd nt b s) with | some (.code x s') => some (.code x s') | _ => none
    | _ => none
  | .block id b => match self (.code rd nt b s) with
    | some (.code (.exit j) s') => match Nat.beq j id with | true => some (.code .norm s') | false => some (.code (.exit j) s')
    | some (.code x s') => some (.code x s')
    | _ => none
  | .loop b => match self (.code rd nt b s) with
    | some (.code .norm s') => match self (.code rd nt (.loop b) s') with | some (.code x s') => some (.code x s') | _ => none
    | some (.code x s') => some (.code x s')
    | _ => none
  | .scope b => match self (.code rd nt b s) with | some (.code x s') => some (.code x s') | _ => none
  | .exit id => some (.code (.exit id) s)
  | .ret => some (.code .ret s)
  | .rangeFunc f ps assign body => match (match aopd s.t f with | some v => afun v | none => none) with
    | some (g, pre, caps) => match rd with
      | none => s.h.pushK .dfr fun h1 => h1.pushK (.loop .ready none s.t nt ps assign body s.h.next) fun h2 =>
        arange self s (.mark s.h.next :: s.ds) g pre caps h1.next h2
      | some l0 => match T.get l0 s.h.m with
        | some (.loop _ _ _ _ _ _ _ d) => s.h.pushK (.loop .ready none s.t nt ps assign body d) fun h2 => arange self s s.ds g pre caps s.h.next h2
        | _ => none
    | _ => none
  | _ => none

/-- A function, once its body has been left. -/
def aret (self : Self) (fn : Func) : Option Out → Option Out
  | some (.code .norm s) => match aleave P self fn s.t s.ds s.h with | some (v, h') => some (.call false v h') | none => none
  | some (.code .ret s) => match aleave P self fn s.t s.ds s.h with | some (v, h') => some (.call false v h') | none => none
  | some (.code (.panic v) s) => match aleaveP P self fn s.t v s.ds s.h with | some (b, v, h') => some (.call b v h') | none => none
  | _ => none
/-- A deferred function, once its body has been left: it may have deferred nothing itself. -/
def adret (fn : Func) : Option Out → Option Out
  | some (.code .norm s) => match s.ds, aresults P s.t s.h fn.results.toList with | [], some vs => some (.call false (oneOr vs) s.h) | _, _ => none
  | some (.code .ret s) => match s.ds, aresults P s.t s.h fn.results.toList with | [], some vs => some (.call false (oneOr vs) s.h) | _, _ => none
  | _ => none

/-- Operations of which none touches memory, and none is guarded. -/
def apures (nt : Nat) : List Oper → T AV → Option (T AV)
  | [], t => some t
  | o :: r, t => match o.guard with
    | some _ => none
    | none => match apure P t o.op with
      | some v => match aput nt t o.dst v with | some t => apures nt r t | none => none
      | none => none

def isRecover (o : Oper) : Bool :=
  match o.guard, o.op with
  | none, .call c => match c.callee, c.args.toList with | .builtin .recover, [] => true | _, _ => false
  | _, _ => false

def acmd (σ : Specs) (dr : Draws) (self : Self) : Cmd → Option Out
  | .code rd nt c s => acode P dr self rd nt c s
  | .call f args h => match σ f args h with
    | some (b, v, h') => some (.call b v h')
    | none => match afn P f with
      | some (fn, c) => match Nat.ble args.length fn.ntmps with
        | true => aret P self fn (self (.code none fn.ntmps c ⟨argsT 0 args .leaf, [], h⟩))
        | false => none
      | none => none
  | .dcall f args h => match afn P f with
    | some (fn, c) => match Nat.ble args.length fn.ntmps with
      | true => adret P fn (self (.code none fn.ntmps c ⟨argsT 0 args .leaf, [], h⟩))
      | false => none
    | none => none
  | .rcall f args h v => match afn P f with
    | some (fn, .seq (.region _ ops false) rest) => match Nat.ble args.length fn.ntmps, ops.toList with
      | true, o :: os => match isRecover o with
        | true => match aput fn.ntmps (argsT 0 args .leaf) o.dst (match v with | some v => v | none => .niliface) with
          | some t => match apures P fn.ntmps os t with
            | some t => adret P fn (self (.code none fn.ntmps rest ⟨t, [], h⟩))
            | none => none
          | none => none
        | false => none
      | _, _ => none
    | _ => none

/-- The evaluator, with so much fuel. -/
def ev (σ : Specs) (dr : Draws) : Nat → Cmd → Option Out
  | 0 => fun _ => none
  | n + 1 => acmd P σ dr (ev σ dr n)

end
end Go.Rh

/- The evaluator is right: operations and regions in the text's order. -/
namespace Go.Rh
variable {P : Program}

def FW (r : Option Nat) : Fence := { Fence.wide with round := r }
theorem FW_room (r : Option Nat) (n : Nat) : (FW r).room n := fun _ h => by simp [FW, Fence.wide] at h

/-- A loop that a measure of its own brings to an end. -/
theorem wpIn_loop_fuel {F : Fence} {n : Nat} {Q : Exit → Act → World → Prop} {a : Act} {w : World} {c : Code} (J : Nat → Act → World → Prop) (m : Nat) (h0 : J m a w)
    (round : ∀ m a w, J m a w → c.wpIn F n P (Exit.then (fun a' w' => ∃ k, k < m ∧ J k a' w') Q) a w) : (Code.loop c).wpIn F n P Q a w := by
  intro b k cs hro hb hr
  have key : ∀ j a w, J j a w →
      ∃ e a' w', Q e a' w' ∧ ArrivesIn (Machine.fenced P F) P (lone (b.atR a (.code c :: .inLoop c :: k)) cs w) b k cs e a' w' := by
    intro j
    induction j using Nat.strongRecOn with
    | _ j ih =>
      intro a w hI
      obtain ⟨e, a₁, w₁, hq, harr⟩ := round j a w hI b (.inLoop c :: k) cs hro hb hr
      cases e with
      | normal =>
        obtain ⟨j', hlt, hI₁⟩ := hq
        obtain ⟨e₂, a₂, w₂, hq₂, harr₂⟩ := ih j' hlt a₁ w₁ hI₁
        exact ⟨e₂, a₂, w₂, hq₂, .of_steps (StepsIn.trans harr (.one (fenced_calm hb hr rfl) stepR_inLoop)) harr₂⟩
      | exit id => exact ⟨_, a₁, w₁, hq, .pass (x := .inLoop c) rfl (fun _ _ => .inl (by simp)) harr⟩
      | goto l => exact ⟨_, a₁, w₁, hq, .pass (x := .inLoop c) rfl (fun _ _ => .inl (by simp)) harr⟩
      | ret => exact ⟨_, a₁, w₁, hq, .pass (x := .inLoop c) rfl (fun _ _ => .inl (by simp)) harr⟩
      | panic ch => exact ⟨_, a₁, w₁, hq, .pass (x := .inLoop c) rfl (fun _ _ => .inl (by simp)) harr⟩
      | outgrown => exact ⟨_, a₁, w₁, hq, .pass (x := .inLoop c) rfl (fun _ _ => .inl (by simp)) harr⟩
  obtain ⟨e, a', w', hq, harr⟩ := key m a w h0
  exact ⟨e, a', w', hq, .of_steps (.one (fenced_calm hb hr rfl) stepR_loop) harr⟩

theorem stepR_scope {b : Frame} {a : Act} {k : List Item} {cs : List Frame} {w : World} {c : Code} : step P (lone (b.atR a (.code (.scope c) :: k)) cs w) = .next (lone (b.atR a (.code c :: .inScope c :: k)) cs w) :=
  step_lone_go (by simp [stepG, stepG.exec, Frame.atR])
theorem stepR_inScope {b : Frame} {a : Act} {k : List Item} {cs : List Frame} {w : World} {c : Code} : step P (lone (b.atR a (.inScope c :: k)) cs w) = .next (lone (b.atR a k) cs w) :=
  step_lone_go (by simp [stepG, stepG.exec, Frame.atR])
theorem wpIn_scope {F : Fence} {n : Nat} {Q : Exit → Act → World → Prop} {a : Act} {w : World} {c : Code} (h : c.wpIn F n P (fun e a w => (∀ l, e ≠ .goto l) ∧ Q e a w) a w) : (Code.scope c).wpIn F n P Q a w := by
  intro b k cs hro hb hr
  have h0 : (lone (b.atR a (.code (.scope c) :: k)) cs w).fenced P F := fenced_calm hb hr rfl
  obtain ⟨e, a₁, w₁, ⟨hng, hq⟩, harr⟩ := h b (.inScope c :: k) cs hro hb hr
  cases e with
  | normal => exact ⟨.normal, a₁, w₁, hq, .head h0 stepR_scope (StepsIn.trans harr (.one (fenced_calm hb hr rfl) stepR_inScope))⟩
  | exit id =>
    have hx : exitTo id (.inScope c :: k) = exitTo id k := by simp [exitTo]
    exact ⟨.exit id, a₁, w₁, hq, fun k' hk => .head h0 stepR_scope (harr.1 k' (by rw [hx]; exact hk)),
      fun hr' hk => let ⟨k₁, h1, h2⟩ := harr.2 hr' (by rw [hx]; exact hk); ⟨k₁, h1, .head h0 stepR_scope h2⟩⟩
  | goto l => exact absurd rfl (hng l)
  | ret => exact ⟨_, a₁, w₁, hq, .of_steps (.one h0 stepR_scope) harr⟩
  | panic ch => exact ⟨_, a₁, w₁, hq, .of_steps (.one h0 stepR_scope) harr⟩
  | outgrown => exact ⟨_, a₁, w₁, hq, .of_steps (.one h0 stepR_scope) harr⟩

/-- Deferred calls, on both sides. -/
def DR (ρ : Ren) : List ADef → List Deferred → Prop
  | [], ds => ds = []
  | .mark l :: as, ds => ∃ i ds', ds = { target := .collected i.blk, args := #[] } :: ds' ∧ ρ l = some i ∧ DR ρ as ds'
  | .fn f caps args :: as, ds => ∃ (cc : Array Value) (ca : Array Value) (ds' : List Deferred), ds = { target := .fn (.func f) cc, args := ca } :: ds' ∧ VRs ρ caps cc.toList ∧ VRs ρ args ca.toList ∧ DR ρ as ds'
theorem DR.mono {ρ ρ' : Ren} (hle : ρ.le ρ') : ∀ {as : List ADef} {ds : List Deferred}, DR ρ as ds → DR ρ' as ds
  | [], _, h => h
  | .mark _ :: _, _, h => by obtain ⟨i, ds', h1, h2, h3⟩ := h; exact ⟨i, ds', h1, hle _ _ h2, DR.mono hle h3⟩
  | .fn _ _ _ :: _, _, h => by obtain ⟨cc, ca, ds', h1, h2, h3, h4⟩ := h; exact ⟨cc, ca, ds', h1, VRs.mono hle h2, VRs.mono hle h3, DR.mono hle h4⟩

def RdR (ρ : Ren) : Option Pos → Option Nat → Prop
  | none, r => r = none
  | some l, r => ∃ i, ρ l = some i ∧ r = some i.blk
theorem RdR.mono {ρ ρ' : Ren} (hle : ρ.le ρ') {rd : Option Pos} {r : Option Nat} (h : RdR ρ rd r) : RdR ρ' rd r := by
  cases rd with
  | none => exact h
  | some l => obtain ⟨i, a, b⟩ := h; exact ⟨i, hle _ _ a, b⟩

def ExR (ρ : Ren) : AEx → Exit → Prop
  | .norm, e => e = .normal
  | .exit id, e => e = .exit id
  | .ret, e => e = .ret
  | .panic v, e => ∃ c, VR ρ v c ∧ e = .panic [{ v := c, recovered := false }]

/-- A frame's state. -/
structure SR (ρ : Ren) (nt : Nat) (s : ASt) (a : Act) (w : World) : Prop where
  t : TmpR ρ nt s.t a.tmps
  ds : DR ρ s.ds a.defers
  h : HR ρ s.h w

/-- What code does. -/
def CodePost (ρ : Ren) (w : World) (nt : Nat) (x : AEx) (s' : ASt) (e : Exit) (a' : Act) (w' : World) : Prop :=
  ∃ ρ', Ext ρ w ρ' w' ∧ SR ρ' nt s' a' w' ∧ ExR ρ' x e
def CodeOK (P : Program) (rd : Option Pos) (nt : Nat) (c : Code) (s : ASt) (x : AEx) (s' : ASt) : Prop :=
  ∀ (ρ : Ren) (a : Act) (w : World) (r : Option Nat), RdR ρ rd r → SR ρ nt s a w → c.wpIn (FW r) 0 P (CodePost ρ w nt x s') a w

def EndR (ρ : Ren) (b : Bool) (v : AV) (e : Ending) : Prop := ∃ c, VR ρ v c ∧ e = match b with | false => .returned c | true => .panicked [{ v := c, recovered := false }]
def CallPost (ρ : Ren) (w : World) (b : Bool) (v : AV) (h' : Heap) (e : Ending) (w' : World) : Prop :=
  ∃ ρ', EndR ρ' b v e ∧ HR ρ' h' w' ∧ Ext ρ w ρ' w'
/-- What a call does. -/
def CallOK (P : Program) (f : FuncId) (args : List AV) (h : Heap) (b : Bool) (v : AV) (h' : Heap) : Prop :=
  ∀ (ρ : Ren) (w : World) (cargs : Array Value), VRs ρ args cargs.toList → HR ρ h w → CallsIn Fence.wide 0 P f cargs w (CallPost ρ w b v h') ∧ ∀ w', (callFunc f cargs).run P w' = .ok (.enter f cargs) w'
def DCallOK (P : Program) (f : FuncId) (args : List AV) (h : Heap) (v : AV) (h' : Heap) : Prop :=
  ∀ (ρ : Ren) (w : World) (cargs : Array Value), VRs ρ args cargs.toList → HR ρ h w → (∀ u, CallsDIn Fence.wide 0 P f cargs u w fun e u' w' => u' = u ∧ CallPost ρ w false v h' e w') ∧ ∀ w', (callFunc f cargs).run P w' = .ok (.enter f cargs) w'
/-- How the frame below stands ahead of a deferred call that recovers, and behind it. -/
def ModeR (ρ : Ren) : Option AV → FrameMode → FrameMode → Prop
  | none, u, u' => u = .returning ∧ u' = .returning
  | some v, u, u' => ∃ c, VR ρ v c ∧ u = .panicking [{ v := c, recovered := false }] ∧ u' = .panicking [{ v := c, recovered := true }]
def RCallOK (P : Program) (f : FuncId) (args : List AV) (h : Heap) (pv : Option AV) (v : AV) (h' : Heap) : Prop :=
  ∀ (ρ : Ren) (w : World) (cargs : Array Value), VRs ρ args cargs.toList → HR ρ h w → (∀ u u1, ModeR ρ pv u u1 → CallsDIn Fence.wide 0 P f cargs u w fun e u' w' => u' = u1 ∧ CallPost ρ w false v h' e w') ∧ ∀ w', (callFunc f cargs).run P w' = .ok (.enter f cargs) w'

structure SelfOK (P : Program) (sf : Self) : Prop where
  code : ∀ rd nt c s x s', sf (.code rd nt c s) = some (.code x s') → CodeOK P rd nt c s x s'
  call : ∀ f args h b v h', sf (.call f args h) = some (.call b v h') → CallOK P f args h b v h'
  dcall : ∀ f args h b v h', sf (.dcall f args h) = some (.call b v h') → DCallOK P f args h v h'
  rcall : ∀ f args h pv b v h', sf (.rcall f args h pv) = some (.call b v h') → RCallOK P f args h pv v h'


theorem aput_sound {ρ : Ren} {nt : Nat} {t t' : T AV} {a : Act} (ht : TmpR ρ nt t a.tmps) {dst : Option Tmp} {v : AV} {c : Value} (hv : VR ρ v c) (h : aput nt t dst v = some t') : TmpR ρ nt t' (a.put dst c).tmps := by
  unfold aput at h
  split at h
  · simp only [Option.some.injEq] at h; subst h; exact ht
  · rename_i d
    split at h
    · rename_i hd
      have hd := blt_lt hd
      rw [T.forceK_eq] at h
      simp only [Option.some.injEq] at h; subst h
      refine ⟨by simp [Act.put, ht.1], fun i u hu => ?_⟩
      by_cases e : d = i
      · subst e
        rw [T.get_set_same] at hu
        simp only [Option.some.injEq] at hu; subst hu
        refine ⟨hd, ?_⟩
        have : (a.tmps.setIfInBounds d c).getD d undef = c := by
          have hlt : d < a.tmps.size := by rw [ht.1]; exact hd
          simp [Array.getD, hlt]
        simp only [Act.put]; rw [this]; exact hv
      · rw [T.get_set_other _ _ _ _ (fun e' => e (Pos.ofNat_inj e'))] at hu
        obtain ⟨h1, h2⟩ := ht.2 i u hu
        refine ⟨h1, ?_⟩
        have : (a.tmps.setIfInBounds d c).getD i undef = a.tmps.getD i undef := by
          simp only [Array.getD_eq_getD_getElem?]
          rw [Array.getElem?_setIfInBounds_ne e]
        simp only [Act.put]; rw [this]; exact h2
    · cases h
theorem put_defers (a : Act) (dst : Option Tmp) (c : Value) : (a.put dst c).defers = a.defers := by cases dst <;> rfl

theorem aguard_sound {ρ : Ren} {nt : Nat} {t : T AV} {a : Act} (ht : TmpR ρ nt t a.tmps) {ops : Array Oper} {o : Oper} {b : Bool} (h : aguard ops o t = some b) : Region.wanted o (yielded ops a.tmps) = b := by
  unfold aguard at h
  unfold Region.wanted
  split at h
  · rename_i hg; simp only [Option.some.injEq] at h; subst h; rw [hg]
  · rename_i j want hg
    rw [hg]
    split at h
    · rename_i d hd
      split at h
      · rename_i b' hb
        simp only [Option.some.injEq] at h; subst h
        obtain ⟨h1, h2⟩ := ht.2 d _ hb
        simp only [VR] at h2
        have hsz : d < a.tmps.size := by rw [ht.1]; exact h1
        have hget : a.tmps[d]? = some (.bool b') := by
          rw [Array.getElem?_eq_getElem hsz]
          have : a.tmps.getD d undef = a.tmps[d] := by simp [Array.getD, hsz]
          rw [← this, h2]
        have hy : yielded ops a.tmps j = some b' := by
          unfold yielded
          rw [hd]; simp [hget]
        simp only [hy]
        cases want <;> cases b' <;> rfl
      · rename_i vs hb
        simp only [Option.some.injEq] at h; subst h
        obtain ⟨h1, cs, h2, -⟩ := ht.2 d _ hb
        have hsz : d < a.tmps.size := by rw [ht.1]; exact h1
        have hget : a.tmps[d]? = some (.tuple cs) := by
          rw [Array.getElem?_eq_getElem hsz]
          have : a.tmps.getD d undef = a.tmps[d] := by simp [Array.getD, hsz]
          rw [← this, h2]
        have hy : yielded ops a.tmps j = none := by
          unfold yielded
          rw [hd]; simp [hget]
        simp only [hy]
        rfl
      · cases h
    · cases h

theorem putParams_sound {ρ : Ren} {nt : Nat} : ∀ {ps : List Tmp} {vs : List AV} {t t' : T AV} {tmps : Array Value} {cs : List Value}, putParams nt ps vs t = some t' → TmpR ρ nt t tmps → VRs ρ vs cs →
    ps.length = cs.length ∧ TmpR ρ nt t' ((ps.zip cs).foldl (fun tmps (p, v) => tmps.setIfInBounds p v) tmps)
  | [], [], t, t', tmps, cs, h, ht, hv => by
    simp only [putParams, Option.some.injEq] at h; subst h; simp only [VRs] at hv; subst hv
    exact ⟨rfl, ht⟩
  | p :: ps, v :: vs, t, t', tmps, cs, h, ht, hv => by
    obtain ⟨c, cs', rfl, hc, hv⟩ := hv
    simp only [putParams] at h
    split at h
    · rename_i t1 h1
      have ht1 : TmpR ρ nt t1 (tmps.setIfInBounds p c) := aput_sound (a := { tmps := tmps, defers := [] }) ht hc h1
      obtain ⟨e1, e2⟩ := putParams_sound h ht1 hv
      exact ⟨by simp [e1], by simpa using e2⟩
    · cases h
  | [], _ :: _, _, _, _, _, h, _, _ => by simp [putParams] at h
  | _ :: _, [], _, _, _, _, h, _, _ => by simp [putParams] at h

end Go.Rh

/- The evaluator is right: rounds, calls, one operation, a row of operations. -/
namespace Go.Rh
variable {P : Program}

/-- A loop's record, found and written over. -/
theorem loop_at {ρ : Ren} {h : Heap} {w : World} (hh : HR ρ h w) {l : Pos} {i : BI} (hl : ρ l = some i) {st : LoopState} {j : Option Jump} {t : T AV} {nt : Nat} {ps : Array Tmp} {assign body : Code} {d : Pos}
    (hg : T.get l h.m = some (.loop st j t nt ps assign body d)) :
    ∃ L : Loop, (Instr.getLoop i.blk).run P w = .ok L w ∧ L.state = st ∧ L.pending = j.map Jump.code ∧ TmpR ρ nt t L.tmps ∧ L.params = ps ∧ L.assign = assign ∧ L.body = body ∧
      ∀ (st' : LoopState) (j' : Option Jump), ∃ w', (setObj i.blk (.loop { L with state := st', pending := j'.map Jump.code })).run P w = .ok () w' ∧
        HR ρ ⟨h.next, T.set (some (.loop st' j' t nt ps assign body d)) l h.m⟩ w' ∧ Ext ρ w ρ w' := by
  obtain ⟨hlt, hob⟩ := hh.obj l i hl
  obtain ⟨L, b, h1, h2, h3, h5, h6, h7, h8, h9, h10⟩ := hob _ hg
  refine ⟨L, ?_, h2, h3, h5, h6, h7, h8, fun st' j' => ⟨_, run_setObj (P := P) w i.blk _ _ h1 (by simp), ?_, Ext.upd hl (by simp) (fun b hb => Array.getElem?_setIfInBounds_ne (Ne.symm hb)) rfl rfl rfl⟩⟩
  · simp [Instr.getLoop, run_getObj w i.blk _ h1 (by simp)]
  · refine hh.upd hl hg (by simp) (fun b hb => Array.getElem?_setIfInBounds_ne (Ne.symm hb)) ?_
    rw [Array.getElem?_setIfInBounds_self_of_lt hlt]
    exact ⟨_, b, rfl, rfl, rfl, h5, h6, h7, h8, h9, h10⟩

theorem around_sound {self : Self} (hs : SelfOK P self) {l : Pos} {args : List AV} {h h' : Heap} {v : AV} (hv : around self l args h = some (v, h')) {ρ : Ren} {i : BI} (hl : ρ l = some i) {w : World} (hh : HR ρ h w)
    {cargs : Array Value} (hc : VRs ρ args cargs.toList) (r : Option Nat) :
    ∃ f tmps assign body, (Instr.yield i.blk cargs).run P w = .ok (.round i.blk f tmps assign body) w ∧ RoundIn (FW r) 0 P i.blk f tmps assign body w (CallPost ρ w false v h') := by
  unfold around at hv
  split at hv
  · rename_i j t nt ps assign body d hg
    obtain ⟨L, hL, l1, l2, l3, l4, l5, l6, -⟩ := loop_at (P := P) hh hl hg
    split at hv
    · cases hv
    · rename_i t1 ht1
      obtain ⟨e1, e2⟩ := putParams_sound ht1 l3 hc
      have hsz : cargs.size = L.params.size := by rw [l4]; simpa using e1.symm
      refine ⟨L.fn, (L.params.zip cargs).foldl (fun tmps (t, a) => tmps.setIfInBounds t a) L.tmps, L.assign, L.body, ?_, ?_⟩
      · simp [Instr.yield, hL, hsz]
      have htm : TmpR ρ nt t1 ((L.params.zip cargs).foldl (fun tmps (t, a) => tmps.setIfInBounds t a) L.tmps) := by
        rw [← Array.foldl_toList, Array.toList_zip, l4]; exact e2
      split at hv
      · rename_i s1 hs1
        split at hv
        · rename_i j1 t2 nt2 ps2 assign2 body2 d2 hds hg1
          rw [T.setK_eq] at hv
          split at hv
          · rename_i x s2 hs2
            split at hv
            · rename_i st3 j3 t3 nt3 ps3 assign3 body3 d3 hg2
              have hA := hs.code _ _ _ _ _ _ hs1
              have hB := hs.code _ _ _ _ _ _ hs2
              refine roundIn_of_wpIn trivial ?_
              rw [l5, l6]
              refine wpIn_mono (hA ρ { tmps := _, defers := [] } w (some i.blk) ⟨i, hl, rfl⟩ ⟨htm, rfl, hh⟩) ?_
              rintro e a1 w1 ⟨ρ1, x1, s1r, he⟩
              simp only [ExR] at he; subst he
              show ∃ w₂, _ ∧ _
              have hl1 := x1.le _ _ hl
              obtain ⟨L1, hL1, m1, m2, m3, m4, m5, m6, mset⟩ := loop_at (P := P) s1r.h hl1 hg1
              obtain ⟨w2, hset, hr2, hx2⟩ := mset .busy j1
              rw [← m2] at hset
              refine ⟨w2, ?_, ?_⟩
              · simp [Instr.beginRound, hL1, hset, m1]
              have hds1 : a1.defers = [] := by have := s1r.ds; rw [hds] at this; exact this
              refine wpIn_mono (hB ρ1 a1 w2 (some i.blk) ⟨i, hl1, rfl⟩ ⟨s1r.t, hds1, hr2⟩) ?_
              rintro e a2 w3 ⟨ρ2, x3, s2r, he⟩
              have hl2 := x3.le _ _ hl1
              obtain ⟨L2, hL2, n1, n2, n3, n4, n5, n6, nset⟩ := loop_at (P := P) s2r.h hl2 hg2
              have hx := (x1.trans hx2).trans x3
              cases x with
              | norm =>
                simp only [ExR] at he; subst he
                simp only [T.setK_eq, Option.some.injEq, Prod.mk.injEq] at hv
                obtain ⟨rfl, rfl⟩ := hv
                obtain ⟨w4, hset, hr4, hx4⟩ := nset .ready none
                exact ⟨.bool true, w4, by simpa [Instr.endRound, hL2] using hset ▸ rfl, ρ2, ⟨_, rfl, rfl⟩, hr4, hx.trans hx4⟩
              | ret =>
                simp only [ExR] at he; subst he
                simp only [T.setK_eq, Option.some.injEq, Prod.mk.injEq] at hv
                obtain ⟨rfl, rfl⟩ := hv
                obtain ⟨w4, hset, hr4, hx4⟩ := nset .done (some .ret)
                exact ⟨.bool false, w4, by simpa [Instr.endRound, hL2] using hset ▸ rfl, ρ2, ⟨_, rfl, rfl⟩, hr4, hx.trans hx4⟩
              | exit id =>
                simp only [ExR] at he; subst he
                simp only [T.setK_eq, Option.some.injEq, Prod.mk.injEq] at hv
                obtain ⟨rfl, rfl⟩ := hv
                obtain ⟨w4, hset, hr4, hx4⟩ := nset .done (some (.exit id))
                exact ⟨.bool false, w4, by simpa [Instr.endRound, hL2] using hset ▸ rfl, ρ2, ⟨_, rfl, rfl⟩, hr4, hx.trans hx4⟩
              | panic u => cases hv
            · cases hv
          · cases hv
        · cases hv
      · cases hv
  · cases hv

end Go.Rh

/- The evaluator is right: one operation, a row of operations. -/
namespace Go.Rh
variable {P : Program}

theorem VR_undef (ρ : Ren) : VR ρ (.tuple []) undef := ⟨#[], rfl, rfl⟩

theorem aop_notDefer {sf : Self} {t : T AV} {h : Heap} {op : Op} {r : Bool × AV × Heap} (hv : aop P sf t h op = some r) : ∀ c, op ≠ .defer c := by
  rintro c rfl
  simp [aop, apure, aread, aalloc, aeff] at hv

theorem aop_sound {sf : Self} (hs : SelfOK P sf) {t : T AV} {nt : Nat} {h h' : Heap} {o : Oper} {v : AV} {b : Bool} (hv : aop P sf t h o.op = some (b, v, h')) {ρ : Ren} {a : Act} {w : World} (ht : TmpR ρ nt t a.tmps) (hh : HR ρ h w) (r : Option Nat)
    {K : Act → World → Prop} {Q : Exit → Act → World → Prop} (hK : ∀ ρ' c w', Ext ρ w ρ' w' → HR ρ' h' w' → VR ρ' v c → match b with | false => K (a.put o.dst c) w' | true => Q (.panic [{ v := c, recovered := false }]) a w') : o.wpIn (FW r) 0 P a w K Q := by
  refine ⟨fun _ _ => trivial, ?_⟩
  rw [Oper.semAt_eq _ _ _ (aop_notDefer hv)]
  unfold aop at hv
  split at hv
  · rename_i u hp
    simp only [Option.some.injEq, Prod.mk.injEq] at hv
    obtain ⟨rfl, rfl, rfl⟩ := hv
    obtain ⟨c, hc, hr⟩ := apure_sound ht hp
    rw [hr w]
    exact hK ρ c w (Ext.refl _ _) hh hc
  · split at hv
    · rename_i u hp
      simp only [Option.some.injEq, Prod.mk.injEq] at hv
      obtain ⟨rfl, rfl, rfl⟩ := hv
      obtain ⟨c, hc, hr⟩ := aread_sound ht hh hp
      rw [hr]
      exact hK ρ c w (Ext.refl _ _) hh hc
    · split at hv
      · rename_i ob mk hal
        rw [Heap.pushK_eq] at hv
        simp only [Option.some.injEq, Prod.mk.injEq] at hv
        obtain ⟨rfl, rfl, rfl⟩ := hv
        have hx := hh.fresh_none
        have hw : HR ρ (h.push ob) w := hh.widen (by simp [Heap.push]) (fun l j hl => by
          simp only [Heap.push]
          exact T.get_set_other _ _ _ _ (fun e => by rw [← e, hx] at hl; cases hl))
        obtain ⟨c, w', i, hr, h1, h2, h3⟩ := aalloc_sound ht hw hal h.next hx (by simp [Heap.push]) hh.low (by simp [Heap.push, T.get_set_same])
        rw [hr]
        exact hK _ c w' h2 h1 h3
      · split at hv
        · rename_i u h1 hef
          simp only [Option.some.injEq, Prod.mk.injEq] at hv
          obtain ⟨rfl, rfl, rfl⟩ := hv
          obtain ⟨nx, c, w', ρ', hr, hn, h1, h2, h3⟩ := aeff_sound ht hh hef
          rw [hr]
          rcases hn with rfl | ⟨rfl, rfl⟩
          · exact hK ρ' c w' h2 h1 h3
          · exact hK ρ' undef w' h2 h1 h3
        · split at hv
          · rename_i c ho
            split at hv
            · rename_i f hcal
              split at hv
              · rename_i g vs hg hvs
                have hgr := aopd_sound ht hg
                have hvr := aopds_sound ht hvs
                unfold acall at hv
                split at hv
                · rename_i fid caps
                  obtain ⟨cc, he, hcc⟩ := hgr
                  split at hv
                  · rename_i b1 u h1 hcall
                    simp only [Option.some.injEq, Prod.mk.injEq] at hv
                    obtain ⟨rfl, rfl, rfl⟩ := hv
                    obtain ⟨hC, hcf⟩ := hs.call _ _ _ _ _ _ hcall ρ w (c.args.map a.eval ++ cc) (by rw [Array.toList_append, Array.toList_map]; exact hvr.append hcc) hh
                    have hrun : (execOp a.eval o).run P w = .ok (.enter fid (c.args.map a.eval ++ cc)) w := by
                      simp [execOp, ho, resolve, hcal, he, Deferred.ofValue, invoke, hcf]
                    rw [hrun]
                    refine ⟨by simp [FW, Fence.wide], CallsIn.mono hC ?_⟩
                    rintro e w' ⟨ρ', ⟨cv, hv', rfl⟩, hr', hx'⟩
                    have := hK ρ' cv w' hx' hr' hv'
                    cases b1 <;> exact this
                  · cases hv
                · rename_i fid bs
                  obtain ⟨bb, he, hbb⟩ := hgr
                  split at hv
                  · rename_i b1 u h1 hcall
                    simp only [Option.some.injEq, Prod.mk.injEq] at hv
                    obtain ⟨rfl, rfl, rfl⟩ := hv
                    obtain ⟨hC, hcf⟩ := hs.call _ _ _ _ _ _ hcall ρ w (bb ++ c.args.map a.eval) (by rw [Array.toList_append, Array.toList_map]; exact hbb.append hvr) hh
                    have hrun : (execOp a.eval o).run P w = .ok (.enter fid (bb ++ c.args.map a.eval)) w := by
                      simp [execOp, ho, resolve, hcal, he, Deferred.ofValue, invoke, hcf]
                    rw [hrun]
                    refine ⟨by simp [FW, Fence.wide], CallsIn.mono hC ?_⟩
                    rintro e w' ⟨ρ', ⟨cv, hv', rfl⟩, hr', hx'⟩
                    have := hK ρ' cv w' hx' hr' hv'
                    cases b1 <;> exact this
                  · cases hv
                · rename_i l
                  obtain ⟨i, hl, he⟩ := hgr
                  split at hv
                  case h_2 => cases hv
                  rename_i u h1 hrd
                  simp only [Option.some.injEq, Prod.mk.injEq] at hv
                  obtain ⟨rfl, rfl, rfl⟩ := hv
                  obtain ⟨f', tmps, assign, body, hy, hround⟩ := around_sound hs hrd hl hh (cargs := c.args.map a.eval) (by rw [Array.toList_map]; exact hvr) r
                  have hrun : (execOp a.eval o).run P w = .ok (.round i.blk f' tmps assign body) w := by
                    simp [execOp, ho, resolve, hcal, he, Deferred.ofValue, invoke, hy]
                  rw [hrun]
                  refine ⟨by simp [FW, Fence.wide], RoundIn.mono hround ?_⟩
                  rintro e w' ⟨ρ', ⟨cv, hv', rfl⟩, hr', hx'⟩
                  exact hK ρ' cv w' hx' hr' hv'
                · cases hv
              · cases hv
            · cases hv
          · rename_i x ho
            split at hv
            · rename_i ty u hx
              simp only [Option.some.injEq, Prod.mk.injEq] at hv
              obtain ⟨rfl, rfl, rfl⟩ := hv
              have hxr := aopd_sound ht hx
              have hxr' := hxr
              obtain ⟨d, he, _⟩ := hxr'
              have hrun : (execOp a.eval o).run P w = .halt (.panic (.iface ty d)) w := by
                simp [execOp, ho, he, Instr.panic]
              rw [hrun]
              have := hK ρ _ w (Ext.refl _ _) hh hxr
              rw [he] at this
              exact this
            · cases hv
          · cases hv

theorem adefer_sound {t : T AV} {nt : Nat} {o : Oper} {d : ADef} (hv : adefer t o.op = some d) {ρ : Ren} {a : Act} {w : World} (ht : TmpR ρ nt t a.tmps)
    {K : Act → World → Prop} {Q : Exit → Act → World → Prop} (hK : ∀ D, DR ρ [d] [D] → K ({ a with defers := D :: a.defers }.put o.dst undef) w) : o.wpIn (FW none) 0 P a w K Q := by
  refine ⟨fun _ _ => trivial, ?_⟩
  unfold adefer at hv
  split at hv
  · rename_i c ho
    split at hv
    · rename_i f hcal
      split at hv
      · rename_i g caps vs hg hvs
        simp only [Option.some.injEq] at hv; subst hv
        obtain ⟨cc, he, hcc⟩ := aopd_sound ht hg
        have hvr := aopds_sound ht hvs
        have hrun : (o.semAt (FW none).round a.eval).run P w = .ok (.defer { target := .fn (.func g) cc, args := c.args.map a.eval }) w := by
          show (execOp a.eval o).run P w = _
          simp [execOp, ho, resolve, hcal, he, Deferred.ofValue]
        rw [hrun]
        exact hK _ ⟨cc, c.args.map a.eval, [], rfl, hcc, by rw [Array.toList_map]; exact hvr, rfl⟩
      · cases hv
    · cases hv
  · cases hv

theorem aops_sound {sf : Self} (hs : SelfOK P sf) {rd : Option Pos} {nt : Nat} {ops : Array Oper} : ∀ {l : List Oper} {s s' : ASt} {x : AEx}, aops P sf rd nt ops l s = some (x, s') →
    ∀ (ρ : Ren) (a : Act) (w : World) (r : Option Nat), RdR ρ rd r → SR ρ nt s a w → wpListIn (FW r) 0 P ops (CodePost ρ w nt x s') l a w
  | [], s, s', x, h, ρ, a, w, r, _, hsr => by
    simp only [aops, Option.some.injEq, Prod.mk.injEq] at h
    obtain ⟨rfl, rfl⟩ := h
    exact ⟨ρ, Ext.refl _ _, hsr, rfl⟩
  | o :: l, s, s', x, h, ρ, a, w, r, hrd, hsr => by
    have up : ∀ {ρ1 : Ren} {w1 : World}, Ext ρ w ρ1 w1 → ∀ {a1 : Act} (w2 : World), wpListIn (FW r) 0 P ops (CodePost ρ1 w1 nt x s') l a1 w2 → wpListIn (FW r) 0 P ops (CodePost ρ w nt x s') l a1 w2 := by
      intro ρ1 w1 hx a1 w2 hq
      have mono : ∀ (l : List Oper) (a : Act) (w2 : World), wpListIn (FW r) 0 P ops (CodePost ρ1 w1 nt x s') l a w2 → wpListIn (FW r) 0 P ops (CodePost ρ w nt x s') l a w2 := by
        intro l
        induction l with
        | nil => rintro a w2 ⟨ρ', h1, h2, h3⟩; exact ⟨ρ', hx.trans h1, h2, h3⟩
        | cons o l ih =>
          intro a w2 hq
          simp only [wpListIn] at hq ⊢
          split
          · rename_i hw
            rw [if_pos hw] at hq
            refine ⟨hq.1, ?_⟩
            have hq := hq.2
            have pm : ∀ {e : Exit} {a : Act} {w2 : World}, CodePost ρ1 w1 nt x s' e a w2 → CodePost ρ w nt x s' e a w2 := fun ⟨ρ', h1, h2, h3⟩ => ⟨ρ', hx.trans h1, h2, h3⟩
            generalize (o.semAt (FW r).round a.eval).run P w2 = res at hq ⊢
            cases res with
            | ok nx w3 =>
              cases nx <;> simp only [Oper.uponIn] at hq ⊢ <;>
                first
                  | exact ih _ _ hq
                  | exact ⟨hq.1, CallsIn.mono hq.2 (fun e w'' he => by cases e <;> first | exact ih _ _ he | exact pm he | (obtain ⟨a0, w0, h0⟩ := he; exact ⟨a0, w0, pm h0⟩))⟩
                  | exact ⟨hq.1, RowsIn.mono hq.2 (fun _ _ he => ih _ _ he)⟩
                  | exact ⟨hq.1, RoundIn.mono hq.2 (fun e w'' he => by cases e <;> first | exact ih _ _ he | exact pm he | (obtain ⟨a0, w0, h0⟩ := he; exact ⟨a0, w0, pm h0⟩))⟩
            | halt x w3 => cases x <;> simp only [Oper.uponIn] at hq ⊢ <;> first | exact pm hq | exact hq
          · rename_i hw
            rw [if_neg hw] at hq
            exact ⟨hq.1, ih _ _ hq.2⟩
      exact mono l a1 w2 hq
    simp only [aops] at h
    simp only [wpListIn]
    split at h
    · cases h
    · rename_i hg
      have hw := aguard_sound hsr.t hg
      rw [hw]
      split at h
      · rename_i t ht
        refine ⟨fun _ _ => trivial, ?_⟩
        have ht' := aput_sound hsr.t (VR_undef ρ) ht
        exact aops_sound hs h ρ _ w r hrd ⟨ht', by rw [put_defers]; exact hsr.ds, hsr.h⟩
      · cases h
    · rename_i hg
      have hw := aguard_sound hsr.t hg
      rw [hw]
      simp only [if_true]
      split at h
      · rename_i v h1 hop
        split at h
        · rename_i t ht
          refine aop_sound hs hop hsr.t hsr.h r (fun ρ' c w' hx hr hvr => ?_)
          show wpListIn _ _ _ _ _ _ _ _
          have ht' := aput_sound (hsr.t.mono hx.le) hvr ht
          exact up hx w' (aops_sound hs h ρ' _ w' r (hrd.mono hx.le) ⟨ht', by rw [put_defers]; exact hsr.ds.mono hx.le, hr⟩)
        · cases h
      · rename_i v h1 hop
        simp only [Option.some.injEq, Prod.mk.injEq] at h
        obtain ⟨rfl, rfl⟩ := h
        refine aop_sound hs hop hsr.t hsr.h r (fun ρ' c w' hx hr hvr => ?_)
        exact ⟨ρ', hx, ⟨hsr.t.mono hx.le, hsr.ds.mono hx.le, hr⟩, c, hvr, rfl⟩
      · split at h
        · rename_i d hd
          have hr : r = none := hrd
          subst hr
          split at h
          · rename_i t ht
            refine adefer_sound hd hsr.t (fun D hD => ?_)
            have ht' := aput_sound (a := { a with defers := D :: a.defers }) hsr.t (VR_undef ρ) ht
            refine aops_sound hs h ρ _ w none rfl ⟨ht', ?_, hsr.h⟩
            rw [put_defers]
            cases d with
            | mark l => obtain ⟨i, ds', e1, e2, e3⟩ := hD; cases e1; exact ⟨i, _, rfl, e2, hsr.ds⟩
            | fn f caps args => obtain ⟨cc, ca, ds', e1, e2, e3, e4⟩ := hD; cases e1; exact ⟨cc, ca, _, rfl, e2, e3, hsr.ds⟩
          · cases h
        · cases h

end Go.Rh

