/- The evaluator's operations against the model's: those that make a block. -/
import Derived.Test.YtfdmaafadphnfaaGreatDoorNeB
set_option linter.unusedSectionVars false
namespace Go.Ne
open Go Go.RowKit
variable [Sig]
section
variable {P : Program} {w0 : World} {ng : Nat} {ρ : Rho} {h : H} {w : World} {ev : Operand → NV} {ev' : Operand → Value}

theorem rowB_ok {byte : Bool} {l : List NV} {b : NB} (hb : rowB byte l = some b) {cs : Array Value} (hl : VRL ρ l cs.toList) (e : TypeId) : isRo b = false ∧ BR ρ b cs.size (.cells cs e (0, 0)) := by
  have hlen := hl.length
  simp only [Array.length_toList] at hlen
  unfold rowB at hb
  split at hb
  · split at hb
    · rename_i v hv
      rw [forceN_eq] at hb
      obtain ⟨bs, h1, h2, h3⟩ := bytesOf_some hv
      cases hb
      rw [h3] at hl
      have hcs := vrl_bytes hl
      refine ⟨rfl, rfl, by rw [lenL_eq]; omega, .inl rfl, ?_, fun i hi => ?_⟩
      · rw [lenL_eq, ← h2, h1]; exact leNat_lt bs
      · rw [lenL_eq] at hi
        have hi' : i < bs.length := by omega
        rw [← Array.getElem?_toList, hcs, h1, byteAt_leNat _ _ hi']
        simp [byteCells, hi']
    · cases hb
  · cases hb
    refine ⟨rfl, ⟨rfl, by omega, fun i v hv => ?_⟩, rfl⟩
    obtain ⟨v', e1, q⟩ := hl.get hv
    exact ⟨v', by simpa using e1, q⟩
theorem run_newRow (e : TypeId) (cs : Array Value) : (newRow e cs).run P w = .ok ⟨w.heap.size, 0, none⟩ { w with heap := w.heap.push (.cells cs e) } := by
  simp [newRow]

/-- Zeros, as the model lays them. -/
theorem zeros_list (z : Array Value) (n : Nat) : ((Array.range (n * z.size)).map fun i => z[i % z.size]!).toList = repL z.toList n := by
  rw [repL_eq]
  simp only [Array.toList_map, Array.toList_range]
  induction n with
  | zero => simp
  | succ n ih =>
    rw [Nat.add_mul, Nat.one_mul, List.range_add, List.map_append, ih, List.replicate_succ', List.flatten_append, List.map_map]
    congr 1
    simp only [List.flatten_cons, List.flatten_nil, List.append_nil]
    apply List.ext_getElem?
    intro k
    simp only [List.getElem?_map, Array.getElem?_toList]
    by_cases hk : k < z.size
    · rw [List.getElem?_range hk]
      simp [Nat.mod_eq_of_lt hk, hk]
    · rw [List.getElem?_eq_none (by simp; omega), Array.getElem?_eq_none (by omega)]
      rfl
end
end Go.Ne
/- The evaluator's operations against the model's: 'allocN'. -/
namespace Go.Ne
open Go Go.RowKit
variable [Sig]
section
variable {P : Program} {w0 : World} {ng : Nat} {ρ : Rho} {h : H} {w : World} {ev : Operand → NV} {ev' : Operand → Value}

/-- What making a block comes to. -/
def MakesB (P : Program) (ρ : Rho) (w : World) (s : Sem Value) (b : NB) (f : Pos → NV) : Prop :=
  ∃ obj C n v', s.run P w = .ok v' { w with heap := w.heap.push obj, drawn := n } ∧ isRo b = false ∧ BR ρ b C obj ∧ ∀ (ρ' : Rho) (p : Pos), ρ' p = some (w.heap.size, C) → VR ρ' (f p) v'

theorem repL_single {α : Type} (x : α) (n : Nat) : repL [x] n = List.replicate n x := by
  induction n with
  | zero => rfl
  | succ n ih => simp [repL, appL, ih, List.replicate_succ]
theorem wrap_i64 {n : Nat} (h : n < 9223372036854775808) : IntKind.i64.wrap (n : Int) = n := by
  refine wrap_of_inR ?_
  rw [inR_iff]
  simp [IntKind.min, IntKind.max, IntKind.bits, IntKind.signed]
  omega
theorem makeSlice_ok (hE : EvR ρ ev ev') {t : TypeId} {l c : Operand} {b : NB} {f : Pos → NV} (hv : allocN P ev (.makeSlice t l c) = some (b, f)) :
    MakesB P ρ w (Instr.makeSlice t (ev' l) (ev' c)) b f := by
  have hl := hE l
  have hc := hE c
  simp only [allocN] at hv
  split at hv
  · rename_i e hk
    obtain ⟨hu, hkn⟩ := kd_slice hk
    split at hv
    · rename_i ei hti
      obtain ⟨i, z, d, hi, hz, hd, h1, h2, h3, h4, h5, h6⟩ := ty_some' hti
      split at hv
      · rename_i kc cn hce
        rw [hce] at hc
        have hc := hc.int_inv
        split at hv
        · rename_i c0 hc0
          obtain ⟨rfl, hc1⟩ := idx_some hc0
          split at hv
          · rename_i kl lnn hle
            rw [hle] at hl
            have hl := hl.int_inv
            split at hv
            · rename_i l0 hl0
              obtain ⟨rfl, hl1⟩ := idx_some hl0
              split at hv
              · rename_i hbytes
                have hbytes : ei.bytes * c0 ≤ 281474976710656 := Nat.le_of_ble_eq_true hbytes
                rw [h2] at hbytes
                have w1 : IntKind.i64.wrap ((c0 : Nat) : Int) = c0 := wrap_i64 (by omega)
                have w2 : IntKind.i64.wrap ((l0 : Nat) : Int) = l0 := wrap_i64 (by omega)
                have hb2 : (i.bytes : Int) * (c0 : Int) ≤ 281474976710656 := by
                  have hb3 : ((i.bytes * c0 : Nat) : Int) ≤ 281474976710656 := by omega
                  rwa [Int.natCast_mul] at hb3
                have hcond2 : ¬ (((decide ((c0 : Int) < 0) || decide ((i.bytes : Int) * (c0 : Int) > 2 ^ 48)) || decide ((l0 : Int) < 0) || decide ((l0 : Int) > (c0 : Int))) = true) := by
                  intro hh
                  simp only [Bool.or_eq_true, decide_eq_true_eq] at hh
                  omega
                have hrun : (Instr.makeSlice t (.int kl l0) (.int kc c0)).run P w = .ok (.slice (some ⟨w.heap.size, 0, none⟩) l0 c0) { w with heap := w.heap.push (.cells ((Array.range (c0 * i.size)).map fun j => z.cells[j % z.cells.size]!) e) } := by
                  unfold Instr.makeSlice
                  simp only [Sem.run_bind, run_underlying hu, Result.andThen_ok, asInt, asIntOf, Sem.run_pure, run_typeInfo_of hi, w1, w2]
                  rw [if_neg hcond2]
                  simp only [Sem.run_bind, run_askRoom, Result.andThen_ok, run_sizeOf_of hi, Int.toNat_natCast]
                  by_cases hz0 : c0 * i.size = 0
                  · rw [if_pos hz0]
                    simp only [Sem.run_bind, Sem.run_pure, Result.andThen_ok, run_newRow, hz0]
                    have e0 : Array.range 0 = #[] := rfl
                    simp only [e0, Array.map_empty]
                  · rw [if_neg hz0]
                    simp only [Sem.run_bind, Sem.run_pure, Result.andThen_ok, run_newRow, run_zeroValue_of hi hz]
                rw [hl, hc]
                have hzl : ((Array.range (c0 * i.size)).map fun j => z.cells[j % z.cells.size]!).toList = repL z.cells.toList c0 := by
                  have := zeros_list z.cells c0
                  rw [show c0 * z.cells.size = c0 * i.size by rw [h6]] at this
                  exact this
                have hsz : ((Array.range (c0 * i.size)).map fun j => z.cells[j % z.cells.size]!).size = c0 * i.size := by simp
                have hval : ∀ (ρ' : Rho) (p : Pos), ρ' p = some (w.heap.size, c0 * i.size) → VR ρ' (.slice p 0 l0 (.known c0)) (.slice (some ⟨w.heap.size, 0, none⟩) l0 c0) := fun ρ' p e => .known p 0 l0 c0 _ _ e (by omega)
                split at hv
                · rename_i hby
                  split at hv
                  · rename_i hz0
                    cases hv
                    refine ⟨_, c0 * i.size, w.drawn, _, hrun, rfl, ?_, hval⟩
                    have hone : ei.size = 1 := by
                      unfold isByte at hby
                      split at hby
                      · rename_i e0; cases e0; rfl
                      · cases hby
                    rw [h1] at hone
                    have hzz : VR ρ (.int .u8 (.ofNat 0)) z := by rw [← hz0, h5]; exact ofValue_ok ρ 10 z
                    have hzz := hzz.int_inv
                    refine ⟨hsz, by rw [hone]; omega, .inl rfl, Nat.pow_pos (by omega), fun j hj => ?_⟩
                    subst hzz
                    rw [← Array.getElem?_toList, hzl]
                    simp only [Value.cells]
                    rw [repL_single, List.getElem?_replicate, if_pos hj]
                    have hb0 : byteAt 0 j = 0 := by rw [byteAt_eq]; simp
                    rw [hb0]
                    rfl
                  · cases hv
                · split at hv
                  · rename_i zl hzl0
                    cases hv
                    refine ⟨_, c0 * i.size, w.drawn, _, hrun, rfl, ?_, hval⟩
                    have hzz : VR ρ ei.zero z := by rw [h5]; exact ofValue_ok ρ 10 z
                    have hrep := (hzz.cells hzl0).rep c0
                    rw [← hzl] at hrep
                    have hlen := hrep.length
                    simp only [Array.length_toList] at hlen
                    refine ⟨⟨hsz, by omega, fun j v hv => ?_⟩, rfl⟩
                    obtain ⟨v', e1, q⟩ := hrep.get hv
                    exact ⟨v', by rw [← Array.getElem?_toList]; exact e1, q⟩
                  · cases hv
              · cases hv
            · cases hv
          · cases hv
        · cases hv
      · cases hv
    · cases hv
  · cases hv
theorem fill_zero_ok (hE : EvR ρ ev ev') {ei : TI} {i : TypeInfo} {z : Value} (h1 : ei.size = i.size) (h5 : ei.zero = ofValue 10 z) (h6 : z.cells.size = i.size) {zl : List NV} (hz : ei.zero.cells = some zl)
    {len : Nat} {parts : Array (Nat × Operand)} {l : List NV} (hf : fillN (fun j => some (Nat.mul j ei.size, ei.size)) ev parts.toList (repL zl len) = some l) :
    ∃ l' : Array Value, Instr.fill (fun j => some (j * i.size, i.size)) ((Array.range (len * i.size)).map fun j => z.cells[j % z.cells.size]!) (parts.map fun (j, x) => (j, ev' x)).toList = some l' ∧ VRL ρ l l'.toList := by
  have hzz : VR ρ ei.zero z := by rw [h5]; exact ofValue_ok ρ 10 z
  have hrep := (hzz.cells hz).rep len
  have hzl : ((Array.range (len * i.size)).map fun j => z.cells[j % z.cells.size]!).toList = repL z.cells.toList len := by
    have := zeros_list z.cells len
    rw [show len * z.cells.size = len * i.size by rw [h6]] at this
    exact this
  rw [← hzl] at hrep
  obtain ⟨l', e1, q⟩ := fill_ok hE (place' := fun j => some (j * i.size, i.size)) (fun j x hx => by rw [h1] at hx; exact hx) parts.toList hrep hf
  exact ⟨l', by rw [← e1]; congr 1; simp, q⟩
theorem buildSlice_ok (hE : EvR ρ ev ev') {t : TypeId} {len : Nat} {parts : Array (Nat × Operand)} {b : NB} {f : Pos → NV} (hv : allocN P ev (.buildSlice t len parts) = some (b, f)) :
    MakesB P ρ w (Instr.buildSlice t len (parts.map fun (i, x) => (i, ev' x))) b f := by
  simp only [allocN] at hv
  split at hv
  · rename_i e hk
    obtain ⟨hu, hkn⟩ := kd_slice hk
    split at hv
    · rename_i ei hti
      obtain ⟨i, z, d, hi, hz, hd, h1, h2, h3, h4, h5, h6⟩ := ty_some' hti
      split at hv
      · cases hv
      · rename_i hle
        have hle : len * ei.size ≤ 16777216 := Nat.le_of_ble_eq_true hle
        rw [h1] at hle
        split at hv
        · cases hv
        · rename_i zl hzl
          split at hv
          · rename_i l hf
            obtain ⟨l', e1, q⟩ := fill_zero_ok hE h1 h5 h6 hzl hf
            split at hv
            · rename_i b0 hb0
              cases hv
              obtain ⟨q1, q2⟩ := rowB_ok hb0 q e
              refine ⟨_, l'.size, w.drawn, .slice (some ⟨w.heap.size, 0, none⟩) len len, ?_, q1, q2, fun ρ' p e0 => .known p 0 len len _ _ e0 (Nat.le_refl _)⟩
              unfold Instr.buildSlice
              have hno : ¬ (len * i.size > 2 ^ 24) := by omega
              simp only [Sem.run_bind, run_underlying hu, Result.andThen_ok, run_sizeOf_of hi]
              rw [if_neg hno]
              by_cases hz0 : len * i.size = 0
              · rw [if_pos hz0]
                have e2 : Instr.fill (fun j => some (j * i.size, i.size)) ((Array.range (len * i.size)).map (fun x => (#[] : Array Value)[x % (#[] : Array Value).size]!)) (parts.map fun (j, x) => (j, ev' x)).toList = some l' := by
                  rw [← e1]
                  have e0 : Array.range 0 = #[] := rfl
                  simp only [hz0, e0, Array.map_empty]
                simp only [Sem.run_bind, Sem.run_pure, Result.andThen_ok, e2, run_newRow]
              · rw [if_neg hz0]
                simp only [Sem.run_bind, Sem.run_pure, Result.andThen_ok, run_zeroValue_of hi hz, e1, run_newRow]
            · cases hv
          · cases hv
    · cases hv
  · cases hv
/-- The row that a string becomes. -/
def strCells (u : ByteArray) (cap : Nat) : Array Value := (u.data.map fun b : UInt8 => Value.int .u8 b.toNat) ++ Array.replicate (cap - u.size) (.int .u8 0)
theorem strCells_size (u : ByteArray) (cap : Nat) (h : u.size ≤ cap) : (strCells u cap).size = cap := by
  unfold strCells
  simp
  have : u.data.size = u.size := rfl
  omega
theorem freeze_last (w : World) (c : Array Value) (e : TypeId) (n : Nat) :
    ({ w with heap := w.heap.push (.cells c e) } : World).freeze ⟨w.heap.size, n, none⟩ 1 = { w with heap := w.heap.push (.cells c e (n, n + 1)) } := by
  unfold World.freeze
  simp only [Nat.one_ne_zero, if_false]
  congr 1
  apply Array.ext_getElem?
  intro i
  rw [Array.getElem?_modify]
  by_cases h : w.heap.size = i
  · subst h; simp
  · rw [if_neg h, Array.getElem?_push, Array.getElem?_push, if_neg (fun k => h k.symm), if_neg (fun k => h k.symm)]
theorem strBytes_ok (hE : EvR ρ ev ev') {s d : TypeId} {x : Operand} {b : NB} {f : Pos → NV} (hv : allocN P ev (.convert s d x) = some (b, f)) :
    MakesB P ρ w (convert s d (ev' x)) b f := by
  have hx := hE x
  simp only [allocN] at hv
  split at hv
  · rename_i hks
    have hs := kd_str hks
    split at hv
    · rename_i e hkd
      obtain ⟨hd, hkn⟩ := kd_slice hkd
      split at hv
      · rename_i hke
        have he := kd_int hke
        split at hv
        · rename_i n a hxe
          rw [hxe] at hx
          obtain ⟨u, e', h1, h2⟩ := hx.str_inv
          cases hv
          subst h1; subst h2
          have hq : ∀ k, u.size ≤ (Question.appendCap u.size 0 e).cut k := fun k => by simp [Question.cut]
          have hrun : ∃ cap, u.size ≤ cap ∧ (convert s d (.string u)).run P w = .ok (.slice (some ⟨w.heap.size, 0, none⟩) u.size cap)
              { w with heap := w.heap.push (.cells (strCells u cap) e (cap, cap + 1)), drawn := w.drawn + 1 } := by
            refine ⟨_, hq (w.tape w.drawn (.appendCap u.size 0 e)), ?_⟩
            generalize hcap : (Question.appendCap u.size 0 e).cut (w.tape w.drawn (.appendCap u.size 0 e)) = cap
            have hle : u.size ≤ cap := by rw [← hcap]; exact hq _
            have hsz := strCells_size u cap hle
            have hfr := freeze_last { w with drawn := w.drawn + 1 } (strCells u cap) e cap
            have hmk : (markStringish ⟨w.heap.size, 0, none⟩).run P { w with heap := w.heap.push (.cells (strCells u cap) e), drawn := w.drawn + 1 } = .ok () { w with heap := w.heap.push (.cells (strCells u cap) e (cap, cap + 1)), drawn := w.drawn + 1 } := by
              unfold markStringish
              have hsh : ({ w with heap := w.heap.push (.cells (strCells u cap) e), drawn := w.drawn + 1 } : World).shape? w.heap.size = some (e, cap) := by
                simp [World.shape?, hsz]
              simp only [Sem.run_bind, run_shape, Result.andThen_ok, hsh, run_freeze]
              rw [← hfr]
            simp only [convert, Sem.run_bind, run_underlying hs, run_underlying hd, run_underlying he, Result.andThen_ok, Conv.stringToBytes, run_choose, Question.forced, Bool.false_eq_true, if_false, hcap, run_newRow]
            have hmk2 := hmk
            unfold strCells at hmk2 ⊢
            rw [hmk2]
            rfl
          obtain ⟨cap, hle, hrun⟩ := hrun
          rw [e']
          refine ⟨_, cap, w.drawn + 1, _, hrun, rfl, ⟨strCells_size u cap hle, hle, .inr (Nat.le_refl _), ?_, fun i hi => ?_⟩, fun ρ' p e0 => .room p 0 u.size cap 1 _ _ e0 hle (by omega)⟩
          · have := leNat_lt u.data.toList
            have hl : u.data.toList.length = u.size := by simp
            rw [hl] at this
            exact this
          · have hl : i < u.data.toList.length := by simpa using hi
            rw [byteAt_leNat _ _ hl]
            unfold strCells
            rw [Array.getElem?_append_left (by simpa using hi)]
            have hi2 : i < u.data.size := hi
            rw [Array.getElem?_map, Array.getElem?_eq_getElem hi2]
            simp
        · cases hv
      · cases hv
    · cases hv
  · cases hv
/-- Operations that make a block: what the evaluator says is what the model does. -/
theorem alloc_ok (hE : EvR ρ ev ev') {o : Oper} {b : NB} {f : Pos → NV} (hv : allocN P ev o.op = some (b, f)) (w : World) :
    ∃ obj C n v', (execOp ev' o).run P w = .ok (.value v') { w with heap := w.heap.push obj, drawn := n } ∧ isRo b = false ∧ BR ρ b C obj ∧ ∀ (ρ' : Rho) (p : Pos), ρ' p = some (w.heap.size, C) → VR ρ' (f p) v' := by
  obtain ⟨dst, op, type, pos, after, guard⟩ := o
  simp only at hv
  have lift : ∀ {s : Sem Value}, MakesB P ρ w s b f → execOp ev' ⟨dst, op, type, pos, after, guard⟩ = (do pure (Next.value (← s)) : Sem Next) →
      ∃ obj C n v', (execOp ev' ⟨dst, op, type, pos, after, guard⟩).run P w = .ok (.value v') { w with heap := w.heap.push obj, drawn := n } ∧ isRo b = false ∧ BR ρ b C obj ∧ ∀ (ρ' : Rho) (p : Pos), ρ' p = some (w.heap.size, C) → VR ρ' (f p) v' := by
    intro s ⟨obj, C, n, v', e1, e2, e3, e4⟩ he
    exact ⟨obj, C, n, v', by rw [he]; exact vrun e1, e2, e3, e4⟩
  cases op with
  | alloc t =>
    simp only [allocN] at hv
    split at hv
    · rename_i ti hti
      obtain ⟨i, z, d, hi, hz, hd, h1, h2, h3, h4, h5⟩ := ty_some hti
      split at hv
      · cases hv
      · rename_i zl hzl
        split at hv
        · rename_i b0 hb0
          cases hv
          have hzz : VR ρ ti.zero z := by rw [h5]; exact ofValue_ok ρ 10 z
          obtain ⟨q1, q2⟩ := rowB_ok hb0 (hzz.cells hzl) t
          refine lift (s := Instr.alloc t true (.tuple #[])) ⟨_, z.cells.size, w.drawn, .pointer (some ⟨w.heap.size, 0, none⟩), ?_, q1, q2, fun ρ' p e0 => .ptr p 0 _ _ e0⟩ rfl
          simp only [Instr.alloc, Sem.run_bind, run_zeroValue_of hi hz, Result.andThen_ok, newVar, run_newRow, Sem.run_pure]
        · cases hv
    · cases hv
  | box t x =>
    simp only [allocN] at hv
    split at hv
    · cases hv
    · rename_i l hl
      split at hv
      · rename_i b0 hb0
        cases hv
        obtain ⟨q1, q2⟩ := rowB_ok hb0 ((hE x).cells hl) t
        refine lift (s := Instr.box t (ev' x)) ⟨_, (ev' x).cells.size, w.drawn, .pointer (some ⟨w.heap.size, 0, none⟩), ?_, q1, q2, fun ρ' p e0 => .ptr p 0 _ _ e0⟩ rfl
        simp only [Instr.box, newVar, Sem.run_bind, run_newRow, Result.andThen_ok, Sem.run_pure]
      · cases hv
  | buildSlice t len parts => exact lift (buildSlice_ok hE hv) rfl
  | makeSlice t l c => exact lift (makeSlice_ok hE hv) rfl
  | makeMap t r =>
    simp only [allocN] at hv
    split at hv
    · rename_i k e hk
      have hu := kd_map hk
      have fin : ∀ (r' : Option Value), (r' = none ∨ ∃ kk n, r' = some (.int kk n)) → MakesB P ρ w (Instr.makeMap t r') (.map [] 0) (fun p => .map p) := by
        intro r' hr
        refine ⟨.map #[] 0, 0, w.drawn, .map (some w.heap.size), ?_, rfl, ⟨rfl, .nil⟩, fun ρ' p e0 => .map p _ _ e0⟩
        rcases hr with rfl | ⟨kk, n, rfl⟩ <;> simp [Instr.makeMap, run_underlying hu, asInt, asIntOf]
      split at hv
      · rename_i hr
        cases hv
        refine lift (s := Instr.makeMap t (r.map ev')) (fin _ (.inl ?_)) rfl
        cases r with
        | none => rfl
        | some r => cases hr
      · rename_i kk n hr
        cases hv
        cases r with
        | none => cases hr
        | some r =>
          simp only [mapO, Option.some.injEq] at hr
          have hx := hE r
          rw [hr] at hx
          exact lift (s := Instr.makeMap t ((some r).map ev')) (fin _ (.inr ⟨kk, n, by simp [hx.int_inv]⟩)) rfl
      · cases hv
    · cases hv
  | convert s d x => exact lift (strBytes_ok hE hv) rfl
  | _ => simp only [allocN, reduceCtorEq] at hv
end
end Go.Ne
/- The evaluator's operations against the model's: stores. -/
namespace Go.Ne
open Go Go.RowKit
variable [Sig]
section
variable {P : Program} {w0 : World} {ng : Nat} {ρ : Rho} {h : H} {w : World} {ev : Operand → NV} {ev' : Operand → Value}

def World.put (w : World) (β : Nat) (o : Obj) : World := { w with heap := w.heap.setIfInBounds β o }
theorem setCell_put {β off : Nat} {c : Array Value} {e : TypeId} {fr : Nat × Nat} {v : Value} (hw : w.heap[β]? = some (.cells c e fr)) :
    w.setCell ⟨β, off, none⟩ v = World.put w β (.cells (c.setIfInBounds off v) e fr) := by
  unfold World.setCell World.put
  congr 1
  apply Array.ext_getElem?
  intro i
  rw [Array.getElem?_modify, Array.getElem?_setIfInBounds]
  by_cases hi : β = i
  · subst hi
    have := lt_of_some hw
    rw [if_pos rfl, if_pos rfl, if_pos this, hw]
    rfl
  · rw [if_neg hi, if_neg hi]
theorem put_put (β : Nat) (o o' : Obj) : World.put (World.put w β o) β o' = World.put w β o' := by
  unfold World.put
  simp
theorem put_get {β : Nat} {o : Obj} (h : β < w.heap.size) : (World.put w β o).heap[β]? = some o := by
  unfold World.put
  simp [h]
theorem put_same {β : Nat} {o : Obj} (h : w.heap[β]? = some o) : World.put w β o = w := by
  unfold World.put
  have : w.heap.setIfInBounds β o = w.heap := by
    apply Array.ext_getElem?
    intro i
    rw [Array.getElem?_setIfInBounds]
    by_cases hi : β = i
    · subst hi
      have := lt_of_some h
      rw [if_pos rfl, if_pos this, h]
    · rw [if_neg hi]
  rw [this]
theorem run_storeCells_lay {β off : Nat} {e : TypeId} {fr : Nat × Nat} : ∀ (vs : List Value) (i : Nat) (c : Array Value) (w : World), w.heap[β]? = some (.cells c e fr) → off + i + vs.length ≤ c.size →
    (∀ k, k < c.size → ¬ (fr.1 ≤ k ∧ k < fr.2)) → (∀ v ∈ vs, v.oneCell' = true) →
    ∃ c' : Array Value, c'.size = c.size ∧ (∀ k, c'[k]? = if off + i ≤ k ∧ k < off + i + vs.length then vs[k - (off + i)]? else c[k]?) ∧
      (storeCells ⟨β, off, none⟩ vs i).run P w = .ok () (World.put w β (.cells c' e fr)) := by
  intro vs
  induction vs with
  | nil =>
    intro i c w hw _ _ _
    refine ⟨c, rfl, fun k => ?_, ?_⟩
    · rw [if_neg (by simp)]
    · rw [put_same hw]; rfl
  | cons v vs ih =>
    intro i c w hw hle hfr hone
    simp only [List.length_cons] at hle
    have hlt := lt_of_some hw
    have hcell : w.cell? ⟨β, off + i, none⟩ = some (c[off + i]'(by omega)) := by
      have hi : off + i < c.size := by omega
      simp [World.cell?, hw, hi]
    have hnf : w.frozen? ⟨β, off + i, none⟩ = false := by
      have := hfr (off + i) (by omega)
      obtain ⟨lo, hi⟩ := fr
      simp only [World.frozen?, hw]
      simp only at this
      cases h1 : decide (lo ≤ off + i) with
      | false => rfl
      | true =>
        cases h2 : decide (off + i < hi) with
        | false => rfl
        | true => exact absurd ⟨of_decide_eq_true h1, of_decide_eq_true h2⟩ this
    have hv := hone v (by simp)
    have hst : (store ((⟨β, off, none⟩ : Addr).add i) v).run P w = .ok () (World.put w β (.cells (c.setIfInBounds (off + i) v) e fr)) := by
      rw [addr_add, run_store P w _ v .plain hv, hcell]
      simp only [hnf, Bool.false_eq_true, if_false]
      rw [setCell_put hw]
    obtain ⟨c', h1, h2, h3⟩ := ih (i + 1) (c.setIfInBounds (off + i) v) (World.put w β (.cells (c.setIfInBounds (off + i) v) e fr)) (put_get hlt) (by simp; omega)
      (fun k hk => hfr k (by simpa using hk)) (fun u hu => hone u (by simp [hu]))
    refine ⟨c', by rw [h1]; simp, fun k => ?_, ?_⟩
    · rw [h2 k]
      by_cases e1 : k = off + i
      · subst e1
        have hi : off + i < c.size := by omega
        rw [if_neg (by omega), if_pos (by simp)]
        simp [hi]
      · by_cases e2 : off + (i + 1) ≤ k ∧ k < off + (i + 1) + vs.length
        · rw [if_pos e2, if_pos (by simp; omega)]
          have : k - (off + i) = (k - (off + (i + 1))) + 1 := by omega
          rw [this]; simp
        · rw [if_neg e2, if_neg (by simp; omega), Array.getElem?_setIfInBounds_ne (by omega)]
    · unfold storeCells
      simp only [Sem.run_bind, hst, Result.andThen_ok]
      rw [h3, put_put]
theorem calm_not {fr : Nat × Nat} {C : Nat} (hc : calm fr C) : ∀ k, k < C → ¬ (fr.1 ≤ k ∧ k < fr.2) := by
  intro k hk ⟨h1, h2⟩
  rcases hc with e | e <;> omega
theorem write_put (r : HR w0 ng ρ h w) {p : Pos} {b b' : NB} {β C : Nat} {o' : Obj} (hb : h.rd p = some b) (hro : isRo b = false) (hρ : ρ p = some (β, C)) (hB : BR ρ b' C o') :
    HR w0 ng ρ (h.upd p (some b')) (World.put w β o') ∧ Ext ρ h w ρ (h.upd p (some b')) (World.put w β o') :=
  r.write hb hro hρ hB rfl rfl rfl rfl

theorem unpack_eq : ∀ (bs : List UInt8), unpack bs.length (leNat bs) = bs.map fun b => NV.int .u8 b.toNat
  | [] => rfl
  | b :: bs => by
    have h1 : b.toNat < 256 := by simpa using b.toNat_lt
    have e1 : (leNat (b :: bs)).mod 256 = b.toNat := by show leNat (b :: bs) % 256 = _; simp only [leNat]; omega
    have e2 : (leNat (b :: bs)).div 256 = leNat bs := by show leNat (b :: bs) / 256 = _; simp only [leNat]; omega
    simp only [List.length_cons, unpack, e1, e2, unpack_eq bs, List.map_cons, mkInt_eq, wrap_u8 h1]

/-- What storing comes to. -/
def StoresB (P : Program) (w0 : World) (ng : Nat) (ρ : Rho) (h : H) (w : World) (s : Sem Unit) (p : Pos) (b : NB) : Prop :=
  ∃ w', s.run P w = .ok () w' ∧ HR w0 ng ρ (h.upd p (some b)) w' ∧ Ext ρ h w ρ (h.upd p (some b)) w'
theorem cells_store (r : HR w0 ng ρ h w) {p : Pos} {l l2 vs : List NV} {vs' : List Value} {β C off : Nat} (hb : h.rd p = some (.cells l)) (hρ : ρ p = some (β, C)) (hv : VRL ρ vs vs') (hone : ∀ v ∈ vs', v.oneCell' = true) (hl : layL vs off l = some l2) :
    StoresB P w0 ng ρ h w (storeCells ⟨β, off, none⟩ vs') p (.cells l2) := by
  obtain ⟨β', C', o, k1, k2, k3, _⟩ := r.blk p _ hb
  rw [hρ] at k1
  cases k1
  cases o <;> simp only [BR] at k3
  rename_i c e fr
  obtain ⟨⟨q1, q2, q3⟩, q4⟩ := k3
  obtain ⟨j1, j2, j3⟩ := layL_some hl
  have hlen := hv.length
  obtain ⟨c', m1, m2, m3⟩ := run_storeCells_lay (P := P) (β := β) (off := off) vs' 0 c w k2 (by omega) (calm_not (.inl q4)) hone
  refine ⟨_, m3, write_put r hb rfl hρ ?_⟩
  refine ⟨⟨by omega, by omega, fun i v hv' => ?_⟩, q4⟩
  rw [j3 i] at hv'
  rw [m2 i]
  simp only [Nat.add_zero]
  split at hv'
  · rename_i hi
    rw [if_pos (by omega)]
    exact hv.get hv'
  · rename_i hi
    rw [if_neg (by omega)]
    exact q3 i v hv'
theorem bytes_store (r : HR w0 ng ρ h w) {p : Pos} {m val off : Nat} {bs : List UInt8} {β C : Nat} (hb : h.rd p = some (.bytes m val)) (hρ : ρ p = some (β, C)) (hle : off + bs.length ≤ m) :
    StoresB P w0 ng ρ h w (storeCells ⟨β, off, none⟩ (byteCells bs)) p (.bytes m (layB val off bs.length (leNat bs))) := by
  obtain ⟨β', C', o, k1, k2, k3, _⟩ := r.blk p _ hb
  rw [hρ] at k1
  cases k1
  cases o <;> simp only [BR] at k3
  rename_i c e fr
  obtain ⟨q1, q2, q3, q4, q5⟩ := k3
  have hone : ∀ v ∈ byteCells bs, v.oneCell' = true := by
    intro v hv
    simp only [byteCells, List.mem_map] at hv
    obtain ⟨b, _, rfl⟩ := hv
    rfl
  have hlen := byteCells_length bs
  obtain ⟨c', m1, m2, m3⟩ := run_storeCells_lay (P := P) (β := β) (off := off) (byteCells bs) 0 c w k2 (by omega) (by rw [q1]; exact calm_not q3) hone
  have hlt := leNat_lt bs
  refine ⟨_, m3, write_put r hb rfl hρ ?_⟩
  refine ⟨by omega, q2, q3, layB_lt q4 hlt hle, fun i hi => ?_⟩
  rw [m2 i, byteAt_layB _ _ _ _ _ hlt]
  simp only [Nat.add_zero, hlen]
  split
  · rename_i hi2
    have hk : i - off < bs.length := by omega
    rw [byteAt_leNat _ _ hk]
    simp [byteCells, hk]
  · exact q5 i hi
theorem storeB_ok (r : HR w0 ng ρ h w) {p : Pos} {b b2 : NB} {vs : List NV} {vs' : List Value} {β C off : Nat} (hb : h.rd p = some b) (hρ : ρ p = some (β, C)) (hv : VRL ρ vs vs') (hs : storeB b off vs = some b2) :
    StoresB P w0 ng ρ h w (storeCells ⟨β, off, none⟩ vs') p b2 := by
  unfold storeB at hs
  split at hs
  · split at hs
    · rename_i hok
      split at hs
      · rename_i l2 hl
        cases hs
        exact cells_store r hb hρ hv (hv.oneCell (okCells_all hok)) hl
      · cases hs
    · cases hs
  · rename_i n val
    split at hs
    · rename_i c
      split at hs
      · rename_i hlt
        have hlt : off < n := by simpa using hlt
        split at hs
        · rename_i hc
          have hc : c < 256 := by simpa using hc
          rw [forceN_eq] at hs
          cases hs
          have e1 : (UInt8.ofNat c).toNat = c := by simp; omega
          have hl : leNat [UInt8.ofNat c] = c := by simp only [leNat, e1]; omega
          have hv2 : VRL ρ ([UInt8.ofNat c].map fun b => NV.int .u8 b.toNat) vs' := by
            simp only [List.map_cons, List.map_nil, e1]; exact hv
          have := vrl_bytes hv2
          subst this
          have := bytes_store (P := P) (off := off) (bs := [UInt8.ofNat c]) r hb hρ (by simp; omega)
          rw [hl] at this
          exact this
        · cases hs
      · cases hs
    · cases hs
  · cases hs
end
end Go.Ne
/- The evaluator's operations against the model's: append. -/
namespace Go.Ne
open Go Go.RowKit
variable [Sig]
section
variable {P : Program} {w0 : World} {ng : Nat} {ρ : Rho} {h : H} {w : World} {ev : Operand → NV} {ev' : Operand → Value}

def isIntD : TypeDesc → Bool
  | .int _ => true
  | _ => false
theorem run_append_place {t u e : TypeId} {i : TypeInfo} {d : TypeDesc} (hu : P.underlying t = some (.slice e)) (hd : P.underlying u = some d) (hdi : isIntD d = false) (hi : P.info? e = some i)
    {a : Addr} {len cap n : Nat} {x' : Value} {ts : Array TypeId} (ht0 : ts[0]? = some t) (ht1 : ts[1]? = some u) (ty : TypeId)
    (hn : (Builtin.lenOf x').run P w = .ok n w) (hle : len + n ≤ cap) {L : List Value} (hL : (Builtin.firstCells i.size n x').run P w = .ok L.toArray w) {w' : World}
    (hst : (storeCells (a.add (len * i.size)) L).run P w = .ok () w') :
    (Builtin.append_ ts ty #[.slice (some a) len cap, x']).run P w = .ok (.slice (some a) (len + n) cap) w' := by
  have hz : (match d with | .int _ => true | _ => false) = false := by cases d <;> first | rfl | (simp [isIntD] at hdi; done)
  unfold Builtin.append_
  simp only [ht0, ht1, List.getElem?_toArray, List.getElem?_cons_zero, List.getElem?_cons_succ, Sem.run_bind, run_underlying hu, run_underlying hd, Result.andThen_ok, run_sizeOf_of hi, Sem.run_pure]
  cases d <;> simp only [isIntD, reduceCtorEq] at hdi <;> simp [hn, hle, hL, hst]
theorem loads_drawn (a : Addr) (k : Nat) : ∀ (n i : Nat) (acc v : Array Value), (loadCellsFrom a i n acc).run P w = .ok v w → (loadCellsFrom a i n acc).run P { w with drawn := k } = .ok v { w with drawn := k }
  | 0, i, acc, v, h => by
    simp only [loadCellsFrom, Sem.run_pure] at h ⊢
    injection h with h
    rw [h]
  | n + 1, i, acc, v, h => by
    simp only [loadCellsFrom, Sem.run_bind, run_load] at h ⊢
    have hc : ({ w with drawn := k } : World).cell? (a.add i) = w.cell? (a.add i) := rfl
    have hf : ∀ b, ({ w with drawn := k } : World).farLoad P (a.add i) b = w.farLoad P (a.add i) b := fun _ => rfl
    rw [hc]
    cases hx : w.cell? (a.add i) with
    | some u =>
      rw [hx] at h
      simp only [Result.andThen_ok] at h ⊢
      exact loads_drawn a k n _ _ v h
    | none =>
      rw [hx] at h
      simp only at h ⊢
      rw [hf]
      cases hy : w.farLoad P (a.add i) (Mode.plain == Mode.atomic) with
      | ok q =>
        obtain ⟨u, l⟩ := q
        rw [hy] at h
        simp only [Result.andThen_ok] at h ⊢
        exact loads_drawn a k n _ _ v h
      | error e => rw [hy] at h; simp at h
theorem firstCells_drawn {esz n : Nat} {x' : Value} {v : Array Value} (k : Nat) (h : (Builtin.firstCells esz n x').run P w = .ok v w) : (Builtin.firstCells esz n x').run P { w with drawn := k } = .ok v { w with drawn := k } := by
  unfold Builtin.firstCells at h ⊢
  split at h
  · exact loads_drawn _ k _ _ _ _ h
  · simp only [Sem.run_pure] at h ⊢
    injection h with h
    rw [h]
  · simp only [Sem.run_pure] at h ⊢
    injection h with h
    rw [h]
  · simp at h
theorem growBy_le : ∀ (r newLen c : Nat), c < newLen + 1 → Builtin.growBy newLen r c ≤ newLen + (newLen + 768) / 4
  | 0, newLen, c, h => by simp only [Builtin.growBy]; omega
  | r + 1, newLen, c, h => by
    simp only [Builtin.growBy]
    split
    · omega
    · by_cases h2 : c + (c + 768) / 4 < newLen + 1
      · exact growBy_le r newLen _ h2
      · have : Builtin.growBy newLen r (c + (c + 768) / 4) = c + (c + 768) / 4 := by
          cases r with
          | zero => rfl
          | succ r => simp only [Builtin.growBy]; rw [if_pos (by omega)]
        rw [this]
        omega
theorem nextcap_le {newLen oldCap : Nat} (h : oldCap < newLen) : Builtin.nextslicecap newLen oldCap ≤ 2 * newLen + 192 := by
  unfold Builtin.nextslicecap
  split
  · omega
  · split
    · omega
    · have := growBy_le 4 newLen oldCap (by omega)
      omega
theorem run_append_grow {t u e : TypeId} {i : TypeInfo} {d : TypeDesc} {z : Value} (hu : P.underlying t = some (.slice e)) (hd : P.underlying u = some d) (hdi : isIntD d = false) (hi : P.info? e = some i) (hz : i.zero = some z) (hzs : z.cells.size = i.size)
    {base : Option Addr} {len cap n : Nat} {x' : Value} {ts : Array TypeId} (ht0 : ts[0]? = some t) (ht1 : ts[1]? = some u) (ty : TypeId)
    (hn : (Builtin.lenOf x').run P w = .ok n w) (hgt : cap < len + n) (hfew : len + n ≤ 1048576) (hby : i.bytes ≤ 65536)
    {La Lb : List Value} (ha : (Builtin.firstCells i.size len (.slice base len cap)).run P w = .ok La.toArray w) (hb : (Builtin.firstCells i.size n x').run P w = .ok Lb.toArray w)
    (hla : La.length = len * i.size) (hlb : Lb.length = n * i.size) :
    ∃ (newCap : Nat) (cs : Array Value), len + n ≤ newCap ∧ cs.size = newCap * i.size ∧ (∀ (j : Nat) v, (La ++ Lb)[j]? = some v → cs[j]? = some v) ∧
      (Builtin.append_ ts ty #[.slice base len cap, x']).run P w = .ok (.slice (some ⟨w.heap.size, 0, none⟩) (len + n) newCap) { w with heap := w.heap.push (.cells cs e), drawn := w.drawn + 1 } := by
  have hq : len + n ≤ (Question.appendCap (len + n) cap e).cut (w.tape w.drawn (.appendCap (len + n) cap e)) := by simp [Question.cut]
  generalize hcap : (Question.appendCap (len + n) cap e).cut (w.tape w.drawn (.appendCap (len + n) cap e)) = newCap at hq
  have hnc := nextcap_le hgt
  have h48 : ¬ (Builtin.nextslicecap (len + n) cap * i.bytes > 2 ^ 48) := by
    have : Builtin.nextslicecap (len + n) cap * i.bytes ≤ (2 * (len + n) + 192) * 65536 := Nat.mul_le_mul hnc hby
    omega
  have hmax : ¬ (((len + n : Nat) : Int) > IntKind.i64.max) := by
    simp [IntKind.max, IntKind.bits, IntKind.signed]; omega
  have hno : ¬ (len + n ≤ cap) := by omega
  have hzl : (Builtin.zeroCells z.cells (newCap - (len + n))).size = (newCap - (len + n)) * i.size := by
    simp [Builtin.zeroCells, hzs]
  refine ⟨newCap, La.toArray ++ Lb.toArray ++ Builtin.zeroCells z.cells (newCap - (len + n)), hq, ?_, fun j v hj => ?_, ?_⟩
  · rw [Array.size_append, Array.size_append, hzl]
    simp only [List.size_toArray, hla, hlb]
    rw [← Nat.add_mul, ← Nat.add_mul]
    congr 1
    omega
  · have hlt : j < (La ++ Lb).length := by
      rcases Nat.lt_or_ge j (La ++ Lb).length with h1 | h1
      · exact h1
      · rw [List.getElem?_eq_none h1] at hj; cases hj
    rw [Array.getElem?_append_left (by simpa using hlt)]
    rw [← Array.getElem?_toList]
    simpa using hj
  · unfold Builtin.append_
    simp only [ht0, ht1, List.getElem?_toArray, List.getElem?_cons_zero, List.getElem?_cons_succ, Sem.run_bind, run_underlying hu, run_underlying hd, Result.andThen_ok, run_sizeOf_of hi, Sem.run_pure]
    cases d <;> simp only [isIntD, reduceCtorEq] at hdi <;>
      simp only [Bool.false_eq_true, if_false, hn, Sem.run_bind, Result.andThen_ok, if_neg hno, hmax, false_and, run_typeInfo_of hi, h48, run_choose, Question.forced, hcap, run_askRoom]
    all_goals simp only [firstCells_drawn (w.drawn + 1) ha, Result.andThen_ok, Bool.not_false, if_true, firstCells_drawn (w.drawn + 1) hb, run_zeroValue_of hi hz, run_newRow, Sem.run_pure]
end
end Go.Ne
/- The evaluator's operations against the model's: append, the evaluator's side. -/
namespace Go.Ne
open Go Go.RowKit
variable [Sig]
section
variable {P : Program} {w0 : World} {ng : Nat} {ρ : Rho} {h : H} {w : World} {ev : Operand → NV} {ev' : Operand → Value}

def Eff.app (e : Eff) (h : H) : H × NV := match e.new with
  | none => (h.upds e.ups, e.val .h)
  | some b => ((h.upds e.ups).alloc b, e.val h.next)
/-- What an effect comes to. -/
def Effects (P : Program) (w0 : World) (ng : Nat) (ρ : Rho) (h : H) (w : World) (s : Sem Value) (e : Eff) : Prop :=
  ∃ v' w' ρ', s.run P w = .ok v' w' ∧ HR w0 ng ρ' (e.app h).1 w' ∧ Ext ρ h w ρ' (e.app h).1 w' ∧ VR ρ' (e.app h).2 v'

theorem cells_prefix {l : List NV} {L : List Value} (hl : VRL ρ l L) {C : Nat} {c : Array Value} (hc : c.size = C) (hle : L.length ≤ C) (hp : ∀ (j : Nat) v, L[j]? = some v → c[j]? = some v) : CellsR ρ l C c := by
  refine ⟨hc, by rw [hl.length]; exact hle, fun i v hv => ?_⟩
  obtain ⟨v', e, q⟩ := hl.get hv
  exact ⟨v', hp i v' e, q⟩
theorem bytes_prefix {bs : List UInt8} {C : Nat} {c : Array Value} {e : TypeId} {fr : Nat × Nat} (hc : c.size = C) (hle : (byteCells bs).length ≤ C) (hp : ∀ (j : Nat) v, (byteCells bs)[j]? = some v → c[j]? = some v) (hf : calm fr C) :
    BR ρ (.bytes bs.length (leNat bs)) C (.cells c e fr) := by
  rw [byteCells_length] at hle
  refine ⟨hc, hle, hf, leNat_lt bs, fun i hi => hp i _ ?_⟩
  rw [byteAt_leNat _ _ hi]
  simp [byteCells, hi]
structure GrowR (P : Program) (ρ : Rho) (w : World) (byte : Bool) (esz len n : Nat) (s' x' : Value) (b : NB) (La Lb : List Value) : Prop where
  la : La.length = len * esz
  lb : Lb.length = n * esz
  ra : (Builtin.firstCells esz len s').run P w = .ok La.toArray w
  rb : (Builtin.firstCells esz n x').run P w = .ok Lb.toArray w
  ro : isRo b = false
  one : ∀ v ∈ Lb, v.oneCell' = true
  cells : ∀ (ρ' : Rho) (C : Nat) (c : Array Value) (e : TypeId) (fr : Nat × Nat), ρ.le ρ' → c.size = C → (La ++ Lb).length ≤ C → (∀ (j : Nat) v, (La ++ Lb)[j]? = some v → c[j]? = some v) → (fr.1 = fr.2 ∨ byte = true ∧ calm fr C) → BR ρ' b C (.cells c e fr)
  at_ : ∀ β off l c, s' = .slice (some ⟨β, off, none⟩) l c → ∀ (j : Nat) u, La[j]? = some u → w.cell? ⟨β, off + j, none⟩ = some u
theorem growE_ok (r : HR w0 ng ρ h w) {byte : Bool} {esz len n : Nat} (hesz : byte = true → esz = 1) {s x : NV} {s' x' : Value} (hs : VR ρ s s') (hx : VR ρ x x') {kill : List (Pos × Option NB)} {e : Eff}
    (hg : growE h.rd byte esz len n s x kill = some e) :
    ∃ b La Lb, e = ⟨kill, some b, fun q => .slice q 0 (len + n) (.room esz)⟩ ∧ GrowR P ρ w byte esz len n s' x' b La Lb := by
  unfold growE at hg
  split at hg
  · obtain rfl := hesz rfl
    split at hg
    · rename_i a b ha hb
      rw [forceN_eq] at hg
      obtain ⟨bs, h1, h2, h3, h4⟩ := bytesAt_ok (P := P) r hs ha
      obtain ⟨cs, j1, j2, j3, _⟩ := bytesAt_ok (P := P) r hx hb
      cases hg
      have e1 : joinB a len b = leNat (bs ++ cs) := by rw [leNat_append, h1, h2, j2]; rfl
      have e2 : Nat.add len n = (bs ++ cs).length := by rw [List.length_append, h1, j1]; rfl
      refine ⟨_, byteCells bs, byteCells cs, rfl, by rw [byteCells_length]; omega, by rw [byteCells_length]; omega, h3, j3, rfl, ?_, ?_, h4⟩
      · intro v hv
        simp only [byteCells, List.mem_map] at hv
        obtain ⟨b, _, rfl⟩ := hv
        rfl
      · intro ρ' C c e fr _ hc hle hp hf
        have e3 : byteCells bs ++ byteCells cs = byteCells (bs ++ cs) := by simp [byteCells]
        rw [e3] at hle hp
        rw [e1, e2]
        refine bytes_prefix hc hle hp ?_
        rcases hf with hf | ⟨_, hf⟩
        · exact .inl hf
        · exact hf
    · cases hg
  · split at hg
    · rename_i a b ha hb
      split at hg
      · rename_i hok
        obtain ⟨la, h1, h2, h3, h4⟩ := cellsAt_ok (P := P) r hs ha
        obtain ⟨lb, j1, j2, j3, _⟩ := cellsAt_ok (P := P) r hx hb
        cases hg
        refine ⟨_, la, lb, rfl, h1, j1, h3, j3, rfl, j2.oneCell (okCells_all hok), ?_, h4⟩
        intro ρ' C c e fr hle' hc hle hp hf
        rcases hf with hf | ⟨hf, _⟩
        · refine ⟨?_, hf⟩
          rw [appL_eq]
          exact cells_prefix ((h2.append j2).mono hle') hc hle hp
        · cases hf
      · cases hg
    · cases hg

/-- append that makes a new row, for sure. -/
theorem grow_new (r : HR w0 ng ρ h w) {t u e : TypeId} {i : TypeInfo} {d : TypeDesc} {z : Value} (hu : P.underlying t = some (.slice e)) (hd : P.underlying u = some d) (hdi : isIntD d = false) (hi : P.info? e = some i) (hz : i.zero = some z) (hzs : z.cells.size = i.size)
    {base : Option Addr} {len cap n : Nat} {x' : Value} {ts : Array TypeId} (ht0 : ts[0]? = some t) (ht1 : ts[1]? = some u) (ty : TypeId)
    (hn : (Builtin.lenOf x').run P w = .ok n w) (hgt : cap < len + n) (hfew : len + n ≤ 1048576) (hby : i.bytes ≤ 65536) {byte : Bool} {b : NB} {La Lb : List Value} (hG : GrowR P ρ w byte i.size len n (.slice base len cap) x' b La Lb) :
    Effects P w0 ng ρ h w (Builtin.append_ ts ty #[.slice base len cap, x']) ⟨[], some b, fun q => .slice q 0 (len + n) (.room i.size)⟩ := by
  obtain ⟨newCap, cs, h1, h2, h3, h4⟩ := run_append_grow (P := P) hu hd hdi hi hz hzs ht0 ht1 ty hn hgt hfew hby hG.ra hG.rb hG.la hG.lb
  have hlen : (La ++ Lb).length ≤ newCap * i.size := by
    rw [List.length_append, hG.la, hG.lb, ← Nat.add_mul]
    exact Nat.mul_le_mul_right _ h1
  have hle : ρ.le (ρ.add h.next (w.heap.size, newCap * i.size)) := by
    intro q x e
    unfold Rho.add
    split
    · rename_i h1; subst h1; rw [r.next_free] at e; cases e
    · exact e
  obtain ⟨r', x'⟩ := r.new (w' := { w with heap := w.heap.push (.cells cs e), drawn := w.drawn + 1 }) (o := .cells cs e) (b := b) (C := newCap * i.size) rfl rfl rfl rfl
    (hG.cells _ _ _ _ _ hle h2 hlen h3 (.inl rfl))
  refine ⟨_, _, _, h4, r', x', ?_⟩
  exact .room _ 0 (len + n) newCap i.size w.heap.size (newCap * i.size) (by simp [Rho.add]) h1 (by omega)
end
end Go.Ne
/- The evaluator's operations against the model's: append, in place and over a block that may be shared. -/
namespace Go.Ne
open Go Go.RowKit
variable [Sig]
section
variable {P : Program} {w0 : World} {ng : Nat} {ρ : Rho} {h : H} {w : World} {ev : Operand → NV} {ev' : Operand → Value}

theorem storeE_ok (r : HR w0 ng ρ h w) {p : Pos} {off : Nat} {vs : List NV} {vs' : List Value} {v : NV} {e : Eff} {β C : Nat} (hρ : ρ p = some (β, C)) (hv : VRL ρ vs vs') (hs : storeE h.rd p off vs v = some e) :
    ∃ b2, e = ⟨[(p, some b2)], none, fun _ => v⟩ ∧ StoresB P w0 ng ρ h w (storeCells ⟨β, off, none⟩ vs') p b2 := by
  unfold storeE at hs
  split at hs
  · cases hs
  · rename_i b hb
    split at hs
    · rename_i b2 hb2
      cases hs
      exact ⟨b2, rfl, storeB_ok r hb hρ hv hb2⟩
    · cases hs
theorem storeBytesE_ok (r : HR w0 ng ρ h w) {p : Pos} {off : Nat} {bs : List UInt8} {v : NV} {e : Eff} {β C : Nat} (hρ : ρ p = some (β, C)) (hs : storeBytesE h.rd p off bs.length (leNat bs) v = some e) :
    ∃ b2, e = ⟨[(p, some b2)], none, fun _ => v⟩ ∧ StoresB P w0 ng ρ h w (storeCells ⟨β, off, none⟩ (byteCells bs)) p b2 := by
  unfold storeBytesE at hs
  split at hs
  · rename_i m u hb
    split at hs
    · rename_i hle
      have hle : off + bs.length ≤ m := Nat.le_of_ble_eq_true hle
      rw [forceN_eq] at hs
      cases hs
      exact ⟨_, rfl, bytes_store r hb hρ hle⟩
    · cases hs
  · rename_i l hb
    split at hs
    · rename_i l2 hl
      cases hs
      rw [unpack_eq] at hl
      refine ⟨_, rfl, cells_store r hb hρ (byteCells_vrl bs) ?_ hl⟩
      intro v hv
      simp only [byteCells, List.mem_map] at hv
      obtain ⟨b, _, rfl⟩ := hv
      rfl
    · cases hs
  · cases hs
/-- What a run with a store at its end comes to. -/
theorem Effects.of_store {s : Sem Value} {p : Pos} {b2 : NB} {v : NV} {v' : Value} {st : Sem Unit} (hv : VR ρ v v') (hs : StoresB P w0 ng ρ h w st p b2) (hrun : ∀ w', st.run P w = .ok () w' → s.run P w = .ok v' w') :
    Effects P w0 ng ρ h w s ⟨[(p, some b2)], none, fun _ => v⟩ := by
  obtain ⟨w', h1, h2, h3⟩ := hs
  exact ⟨v', w', ρ, hrun w' h1, h2, h3, hv⟩
theorem Effects.same {s : Sem Value} {v : NV} {v' : Value} (r : HR w0 ng ρ h w) (hv : VR ρ v v') (hrun : s.run P w = .ok v' w) : Effects P w0 ng ρ h w s ⟨[], none, fun _ => v⟩ :=
  ⟨v', w, ρ, hrun, r, Ext.refl _ _ _, hv⟩

structure AppT (P : Program) (t u e : TypeId) (ei : TI) (i : TypeInfo) (z : Value) (ts : Array TypeId) : Prop where
  hu : P.underlying t = some (.slice e)
  hd : ∃ d, P.underlying u = some d ∧ isIntD d = false
  hi : P.info? e = some i
  hz : i.zero = some z
  hzs : z.cells.size = i.size
  sz : ei.size = i.size
  by_ : ei.bytes = i.bytes
  t0 : ts[0]? = some t
  t1 : ts[1]? = some u
  byte : isByte (some ei) = true → i.size = 1

theorem VR.len_slice {p : Pos} {off len : Nat} {cap : Cap} {s' : Value} (hs : VR ρ (.slice p off len cap) s') (n : Nat) {β c : Nat} (he : s' = .slice (some ⟨β, off, none⟩) len c) (hle : len + n ≤ c) :
    VR ρ (.slice p off (len + n) cap) (.slice (some ⟨β, off, none⟩) (len + n) c) := by
  subst he
  cases hs with
  | known _ _ _ _ _ C hh hl => exact .known p off (len + n) c β C hh hle
  | room _ _ _ _ z _ C hh hl hc => exact .room p off (len + n) c z β C hh hle hc
theorem place_ok (r : HR w0 ng ρ h w) {t u e : TypeId} {ei : TI} {i : TypeInfo} {z : Value} {ts : Array TypeId} (T : AppT P t u e ei i z ts) (ty : TypeId) {p : Pos} {off len n : Nat} {cap : Cap} {x : NV} {x' : Value} {β c C : Nat}
    (hs : VR ρ (.slice p off len cap) (.slice (some ⟨β, off, none⟩) len c)) (hρ : ρ p = some (β, C)) (hx : VR ρ x x') (hn : lenV x = some n) (hle : len + n ≤ c) {f : Eff} (hf : placeE h.rd (isByte (some ei)) ei.size p off len n cap x = some f) :
    Effects P w0 ng ρ h w (Builtin.append_ ts ty #[.slice (some ⟨β, off, none⟩) len c, x']) f := by
  obtain ⟨d, hd, hdi⟩ := T.hd
  obtain ⟨hl, hsh⟩ := lenV_ok (P := P) (w := w) hx hn
  have hres := hs.len_slice n rfl hle
  have fin : ∀ (L : List Value) (w' : World), (Builtin.firstCells i.size n x').run P w = .ok L.toArray w → (storeCells ((⟨β, off, none⟩ : Addr).add (len * i.size)) L).run P w = .ok () w' →
      (Builtin.append_ ts ty #[.slice (some ⟨β, off, none⟩) len c, x']).run P w = .ok (.slice (some ⟨β, off, none⟩) (len + n) c) w' :=
    fun L w' h1 h2 => run_append_place (P := P) T.hu hd hdi T.hi T.t0 T.t1 ty hl hle h1 h2
  unfold placeE at hf
  split at hf
  · cases hf
    refine Effects.same r hres (fin [] w ?_ rfl)
    rcases hsh with rfl | ⟨a, c, rfl⟩ | ⟨s, rfl, hs0⟩
    · exact run_firstCells_none _ _ (.inr (.inl rfl))
    · exact run_firstCells_none _ _ (.inl ⟨_, _, rfl⟩)
    · simp [Builtin.firstCells]
  · split at hf
    · rename_i hby
      have h1 := T.byte hby
      split at hf
      · rename_i b hb
        obtain ⟨bs, k1, k2, k3, _⟩ := bytesAt_ok (P := P) r hx hb
        rw [k2, ← k1] at hf
        obtain ⟨b2, rfl, hst⟩ := storeBytesE_ok (P := P) r hρ hf
        rw [k1]
        refine Effects.of_store hres hst fun w' hw' => fin (byteCells bs) w' (by rw [h1]; exact k3) ?_
        rw [h1, Nat.mul_one, addr_add]
        exact hw'
      · cases hf
    · split at hf
      · rename_i l hl2
        obtain ⟨l', k1, k2, k3, _⟩ := cellsAt_ok (P := P) r hx hl2
        obtain ⟨b2, rfl, hst⟩ := storeE_ok (P := P) r hρ k2 hf
        refine Effects.of_store hres hst fun w' hw' => fin l' w' (by rw [← T.sz]; exact k3) ?_
        rw [addr_add, ← T.sz]
        exact hw'
      · cases hf
end
end Go.Ne
/- The evaluator's operations against the model's: append, all of it. -/
namespace Go.Ne
open Go Go.RowKit
variable [Sig]
section
variable {P : Program} {w0 : World} {ng : Nat} {ρ : Rho} {h : H} {w : World} {ev : Operand → NV} {ev' : Operand → Value}

/-- 'append' on a block that may be shared: the old name dies. -/
theorem grow_kill (r : HR w0 ng ρ h w) {t u e : TypeId} {ei : TI} {i : TypeInfo} {z : Value} {ts : Array TypeId} (T : AppT P t u e ei i z ts) (ty : TypeId) {p : Pos} {len n c β C : Nat} {x' : Value} {b0 b : NB}
    (hb0 : h.rd p = some b0) (hro : isRo b0 = false) (hρ : ρ p = some (β, C)) (hC : c * i.size = C)
    (hn : (Builtin.lenOf x').run P w = .ok n w) (hfew : len + n ≤ 1048576) (hby : i.bytes ≤ 65536) {byte : Bool} (hcalm : ∀ {o : Obj}, BR ρ b0 C o → ∃ cs e fr, o = .cells cs e fr ∧ cs.size = C ∧ (fr.1 = fr.2 ∨ byte = true ∧ calm fr C)) {La Lb : List Value}
    (hG : GrowR P ρ w byte i.size len n (.slice (some ⟨β, 0, none⟩) len c) x' b La Lb) :
    Effects P w0 ng ρ h w (Builtin.append_ ts ty #[.slice (some ⟨β, 0, none⟩) len c, x']) ⟨[(p, none)], some b, fun q => .slice q 0 (len + n) (.room i.size)⟩ := by
  obtain ⟨d, hd, hdi⟩ := T.hd
  obtain ⟨r1, x1⟩ := r.kill p
  have hnext : (h.upd p none).next = h.next := by simp
  by_cases hin : len + n ≤ c
  · obtain ⟨β', C', o, k1, k2, k3, k4⟩ := r.blk p _ hb0
    rw [hρ] at k1
    cases k1
    obtain ⟨cs, e0, fr, rfl, hsz, hfr⟩ := hcalm k3
    have hge := k4 hro
    have hmul : (len + n) * i.size ≤ c * i.size := Nat.mul_le_mul_right _ hin
    rw [hC, Nat.add_mul, ← hG.la, ← hG.lb] at hmul
    have hnf : calm fr C := by
      rcases hfr with hf | ⟨_, hf⟩
      · exact .inl hf
      · exact hf
    obtain ⟨c', m1, m2, m3⟩ := run_storeCells_lay (P := P) (β := β) (off := len * i.size) Lb 0 cs w k2 (by rw [hsz, ← hG.la]; omega) (by rw [hsz]; exact calm_not hnf) hG.one
    have hlt := lt_of_some k2
    -- the content
    have hcont : ∀ (j : Nat) v, (La ++ Lb)[j]? = some v → c'[j]? = some v := by
      intro j v hj
      rw [m2 j]
      simp only [Nat.add_zero]
      rw [← hG.la]
      by_cases hj1 : j < La.length
      · rw [if_neg (by omega)]
        rw [List.getElem?_append_left hj1] at hj
        have := hG.at_ β 0 len c rfl j v hj
        simp only [World.cell?, Nat.zero_add, k2] at this
        exact this
      · have hj2 := hj
        rw [List.getElem?_append_right (by omega)] at hj2
        have hlt2 : j - La.length < Lb.length := by
          rcases Nat.lt_or_ge (j - La.length) Lb.length with h1 | h1
          · exact h1
          · rw [List.getElem?_eq_none h1] at hj2; cases hj2
        rw [if_pos (by omega)]
        exact hj2
    have hres : (Builtin.append_ ts ty #[.slice (some ⟨β, 0, none⟩) len c, x']).run P w = .ok (.slice (some ⟨β, 0, none⟩) (len + n) c) (World.put w β (.cells c' e0 fr)) :=
      run_append_place (P := P) T.hu hd hdi T.hi T.t0 T.t1 ty hn hin hG.rb (by rw [addr_add, Nat.zero_add]; exact m3)
    -- the world after the write, under the old name's death
    have hw' : ∀ γ, (World.put w β (.cells c' e0 fr)).heap[γ]? = if β = γ then some (.cells c' e0 fr) else w.heap[γ]? := by
      intro γ
      simp only [World.put, Array.getElem?_setIfInBounds]
      by_cases hk : β = γ
      · subst hk; rw [if_pos rfl, if_pos rfl, if_pos hlt]
      · rw [if_neg hk, if_neg hk]
    have hsz' : (World.put w β (.cells c' e0 fr)).heap.size = w.heap.size := by simp [World.put]
    have noname : ∀ q b' D, (h.upd p none).rd q = some b' → ρ q ≠ some (β, D) := by
      intro q b' D e1 e2
      rw [H.rd_upd] at e1
      split at e1
      · cases e1
      · rename_i hpq
        exact hpq (r.inj p q b0 b' β C D hb0 e1 hro hρ e2)
    have r2 : HR w0 ng ρ (h.upd p none) (World.put w β (.cells c' e0 fr)) := by
      refine ⟨⟨r.below.os, r.below.tape, r.below.output, by rw [hsz']; exact r.below.size, fun k hk => ?_⟩, fun q b' e1 => ?_, r1.inj, fun q x e1 => ?_, r.glob, r.frz⟩
      · rw [hw', if_neg (by omega)]; exact r.below.block k hk
      · obtain ⟨γ, D, o, f1, f2, f3, f4⟩ := r1.blk q b' e1
        refine ⟨γ, D, o, f1, ?_, f3, f4⟩
        rw [hw', if_neg]
        · exact f2
        · rintro rfl
          exact noname q b' D e1 f1
      · rw [hsz']; exact r1.dom q x e1
    have hBR : BR (ρ.add (h.upd p none).next (β, C)) b C (.cells c' e0 fr) := by
      refine hG.cells _ C c' e0 fr ?_ (by omega) (by rw [List.length_append]; omega) hcont hfr
      intro q x e1
      unfold Rho.add
      split
      · rename_i h1; subst h1; rw [r1.next_free] at e1; cases e1
      · exact e1
    obtain ⟨r3, le⟩ := r2.name (b := b) (C := C) r2.next_free noname hge (by rw [hw', if_pos rfl]) hBR
    refine ⟨_, _, ρ.add (h.upd p none).next (β, C), hres, r3, ?_, ?_⟩
    · refine ⟨le, fun q x e1 e2 => ?_, ?_, by rw [hsz']; exact Nat.le_refl _, fun γ o e1 no => ?_, fun γ ⟨q, b', D, e1, e2, e3⟩ => ?_⟩
      · unfold Rho.add at e1
        split at e1
        · rename_i hq
          cases e1
          refine ⟨.inr ⟨p, b0, C, hb0, hro, hρ⟩, ?_⟩
          rw [← hq, hnext]
          exact Nat.le_refl _
        · rw [e2] at e1; cases e1
      · show h.next.toNat ≤ ((h.upd p none).alloc b).next.toNat
        rw [H.next_alloc, Pos.toNat_succ, hnext]; omega
      · rw [hw', if_neg]
        · exact e1
        · rintro rfl
          exact no ⟨p, b0, C, hb0, hro, hρ⟩
      · have e1' : ((h.upd p none).alloc b).rd q = some b' := e1
        rw [H.rd_alloc] at e1'
        unfold Rho.add at e3
        split at e1'
        · rename_i hq
          rw [if_pos hq] at e3
          cases e3
          exact .inl ⟨p, b0, C, hb0, hro, hρ⟩
        · rename_i hq
          rw [if_neg hq] at e3
          rw [H.rd_upd] at e1'
          split at e1'
          · cases e1'
          · exact .inl ⟨q, b', D, e1', e2, e3⟩
    · refine .room h.next 0 (len + n) c i.size β C ?_ hin (by omega)
      simp [Rho.add]
  · obtain ⟨v', w', ρ', g1, g2, g3, g4⟩ := grow_new (P := P) r1 T.hu hd hdi T.hi T.hz T.hzs (base := some ⟨β, 0, none⟩) T.t0 T.t1 ty hn (Nat.lt_of_not_le hin) hfew hby hG
    refine ⟨v', w', ρ', g1, g2, x1.trans g3, ?_⟩
    have : (Eff.app ⟨[], some b, fun q => .slice q 0 (len + n) (.room i.size)⟩ (h.upd p none)).2 = (Eff.app ⟨[(p, none)], some b, fun q => .slice q 0 (len + n) (.room i.size)⟩ h).2 := by
      simp [Eff.app]
    rw [← this]
    exact g4
theorem isByte_size {ei : TI} (h : isByte (some ei) = true) : ei.size = 1 := by
  unfold isByte at h
  split at h
  · rename_i e0; cases e0; rfl
  · cases h
theorem append_ok (r : HR w0 ng ρ h w) {t u e : TypeId} {ei : TI} {i : TypeInfo} {z : Value} {ts : Array TypeId} (T : AppT P t u e ei i z ts) (hti : ty P e = some ei) (tt : TypeId) {s x : NV} {s' x' : Value} (hs : VR ρ s s') (hx : VR ρ x x') {f : Eff} (hf : appendE P h.rd e s x = some f) :
    Effects P w0 ng ρ h w (Builtin.append_ ts tt #[s', x']) f := by
  obtain ⟨d, hd, hdi⟩ := T.hd
  unfold appendE at hf
  rw [hti] at hf
  simp only at hf
  split at hf
  · cases hf
  · rename_i n hn
    obtain ⟨hl, hsh⟩ := lenV_ok (P := P) (w := w) hx hn
    split at hf
    · cases hf
    · rename_i hbytes
      have hbytes : i.bytes ≤ 65536 := by rw [← T.by_]; exact Nat.le_of_ble_eq_true hbytes
      split at hf
      · cases hf
      · rename_i hsz0
        split at hf
        · -- nil
          cases hs
          split at hf
          · cases hf
            refine Effects.same r .nslice ?_
            unfold Builtin.append_
            have hn0 : (Builtin.firstCells i.size 0 x').run P w = .ok #[] w := by
              rcases hsh with rfl | ⟨a, c, rfl⟩ | ⟨q, rfl, hs0⟩
              · exact run_firstCells_none _ _ (.inr (.inl rfl))
              · exact run_firstCells_none _ _ (.inl ⟨_, _, rfl⟩)
              · simp [Builtin.firstCells]
            simp only [T.t0, T.t1, List.getElem?_toArray, List.getElem?_cons_zero, List.getElem?_cons_succ, Sem.run_bind, run_underlying T.hu, run_underlying hd, Result.andThen_ok, run_sizeOf_of T.hi, Sem.run_pure]
            cases d <;> simp only [isIntD, reduceCtorEq] at hdi <;> simp [hl, hn0]
          · rename_i hn0
            have hn0 : n ≠ 0 := by rintro rfl; exact hn0 rfl
            split at hf
            · rename_i hfew
              have hfew : n ≤ 1048576 := Nat.le_of_ble_eq_true hfew
              obtain ⟨b, La, Lb, rfl, hG⟩ := growE_ok (P := P) r (fun hb => isByte_size hb) .nslice hx hf
              rw [T.sz] at hG ⊢
              exact grow_new (P := P) r T.hu hd hdi T.hi T.hz T.hzs T.t0 T.t1 tt hl (by omega) (by omega) hbytes hG
            · cases hf
        · -- a slice
          rename_i p off len cap
          obtain ⟨β, C, c, rfl, hρ, hlc, -⟩ := hs.slice_inv
          split at hf
          · cases hf
          · rename_i hfew
            have hfew : len + n ≤ 1048576 := Nat.le_of_ble_eq_true hfew
            split at hf
            · -- known
              rename_i k
              cases hs with
              | known _ _ _ _ _ C' hh hl' =>
                split at hf
                · rename_i hle
                  have hle : len + n ≤ c := Nat.le_of_ble_eq_true hle
                  exact place_ok (P := P) r T tt (.known p off len c β C' hh hl') hh hx hn hle hf
                · rename_i hle
                  have hle : ¬ (len + n ≤ c) := by
                    intro hc
                    exact Bool.noConfusion (hle.symm.trans (Nat.ble_eq_true_of_le hc))
                  obtain ⟨b, La, Lb, rfl, hG⟩ := growE_ok (P := P) r (fun hb => isByte_size hb) (.known p off len c β C' hh hl') hx hf
                  rw [T.sz] at hG ⊢
                  exact grow_new (P := P) r T.hu hd hdi T.hi T.hz T.hzs T.t0 T.t1 tt hl (by omega) hfew hbytes hG
            · -- room
              rename_i k
              cases hs with
              | room _ _ _ _ _ _ C' hh hl' hc' =>
                rw [hρ] at hh
                cases hh
                have hs0 : VR ρ (.slice p off len (.room k)) (.slice (some ⟨β, off, none⟩) len c) := .room p off len c k β C hρ hl' hc'
                split at hf
                · cases hf
                  refine Effects.same r hs0 ?_
                  have hn0 : (Builtin.firstCells i.size 0 x').run P w = .ok #[] w := by
                    rcases hsh with rfl | ⟨a, c, rfl⟩ | ⟨q, rfl, hs0⟩
                    · exact run_firstCells_none _ _ (.inr (.inl rfl))
                    · exact run_firstCells_none _ _ (.inl ⟨_, _, rfl⟩)
                    · simp [Builtin.firstCells]
                  exact run_append_place (P := P) T.hu hd hdi T.hi T.t0 T.t1 tt hl (by omega) (L := []) hn0 rfl
                · rename_i hn0
                  have hn0 : n ≠ 0 := by rintro rfl; exact hn0 rfl
                  split at hf
                  · cases hf
                  · rename_i hk
                    have hk : k = ei.size := Nat.eq_of_beq_eq_true hk
                    subst hk
                    split at hf
                    · cases hf
                    · rename_i b0 hb0
                      split at hf
                      · cases hf
                      · rename_i size hsize
                        have hsz1 : 0 < ei.size := Nat.pos_of_ne_zero fun e0 => hsz0 e0
                        split at hf
                        · rename_i hle
                          have hle : off + (len + n) * ei.size ≤ size := Nat.le_of_ble_eq_true hle
                          obtain ⟨β', C', o, k1, k2, k3, k4⟩ := r.blk p _ hb0
                          rw [hρ] at k1
                          cases k1
                          have hsC : size ≤ C := by
                            cases b0 <;> simp only [sizeB, Option.some.injEq, reduceCtorEq] at hsize <;> cases o <;> simp only [BR] at k3
                            · rw [lenL_eq] at hsize; have := k3.1.2.1; omega
                            · rw [lenL_eq] at hsize; have := k3.1.2.1; omega
                            · have := k3.2.1; omega
                          have hle2 : (len + n) * ei.size ≤ c * ei.size := by omega
                          have hle3 : len + n ≤ c := Nat.le_of_mul_le_mul_right hle2 hsz1
                          exact place_ok (P := P) r T tt hs0 hρ hx hn hle3 hf
                        · split at hf
                          · split at hf
                            · rename_i hby
                              obtain ⟨b, La, Lb, rfl, hG⟩ := growE_ok (P := P) r (fun _ => isByte_size hby) hs0 hx hf
                              rw [T.sz] at hG ⊢
                              refine grow_kill (P := P) r T tt hb0 rfl hρ (by rw [← T.sz]; omega) hl hfew hbytes ?_ hG
                              intro o ho
                              cases o <;> simp only [BR] at ho
                              exact ⟨_, _, _, rfl, ho.1, .inr ⟨rfl, ho.2.2.1⟩⟩
                            · obtain ⟨b, La, Lb, rfl, hG⟩ := growE_ok (P := P) r (fun hb => by cases hb) hs0 hx hf
                              rw [T.sz] at hG ⊢
                              refine grow_kill (P := P) r T tt hb0 rfl hρ (by rw [← T.sz]; omega) hl hfew hbytes ?_ hG
                              intro o ho
                              cases o <;> simp only [BR] at ho
                              exact ⟨_, _, _, rfl, ho.1.1, .inl ho.2⟩
                            · cases hf
                          · cases hf
        · -- the caller's, cut to nothing
          rename_i q m l0
          split at hf
          · obtain ⟨β, off, rfl⟩ := hs.fsl_inv0
            split at hf
            · cases hf
              refine Effects.same r hs ?_
              unfold Builtin.append_
              have hn0 : (Builtin.firstCells i.size 0 x').run P w = .ok #[] w := by
                rcases hsh with rfl | ⟨a, c, rfl⟩ | ⟨q, rfl, hs0⟩
                · exact run_firstCells_none _ _ (.inr (.inl rfl))
                · exact run_firstCells_none _ _ (.inl ⟨_, _, rfl⟩)
                · simp [Builtin.firstCells]
              simp only [T.t0, T.t1, List.getElem?_toArray, List.getElem?_cons_zero, List.getElem?_cons_succ, Sem.run_bind, run_underlying T.hu, run_underlying hd, Result.andThen_ok, run_sizeOf_of T.hi, Sem.run_pure]
              cases d <;> simp only [isIntD, reduceCtorEq] at hdi <;> simp [hl, hn0, storeCells]
            · rename_i hn0
              have hn0 : n ≠ 0 := by rintro rfl; exact hn0 rfl
              split at hf
              · rename_i hfew
                have hfew : n ≤ 1048576 := Nat.le_of_ble_eq_true hfew
                obtain ⟨b, La, Lb, rfl, hG⟩ := growE_ok (P := P) r (fun hb => isByte_size hb) hs hx hf
                rw [T.sz] at hG ⊢
                exact grow_new (P := P) r T.hu hd hdi T.hi T.hz T.hzs T.t0 T.t1 tt hl (by omega) (by omega) hbytes hG
              · cases hf
          · cases hf
        · cases hf
end
end Go.Ne
/- The evaluator's operations against the model's: 'chainN', all of it. -/
namespace Go.Ne
open Go Go.RowKit
variable [Sig]
section
variable {P : Program} {w0 : World} {ng : Nat} {ρ : Rho} {h : H} {w : World} {ev : Operand → NV} {ev' : Operand → Value}

theorem capBeq_eq {a b : Cap} (h : capBeq a b = true) : a = b := by
  cases a <;> cases b <;> simp only [capBeq, reduceCtorEq] at h <;> rw [Nat.eq_of_beq_eq_true h]
theorem beqL_eq {f : NV → NV → Bool} (hf : ∀ a b, f a b = true → a = b) : ∀ {l m : List NV}, beqL f l m = true → l = m
  | [], [], _ => rfl
  | [], _ :: _, h => by simp only [beqL, reduceCtorEq] at h
  | _ :: _, [], h => by simp only [beqL, reduceCtorEq] at h
  | a :: l, b :: m, h => by
    simp only [beqL] at h
    split at h
    · rename_i hab
      rw [hf a b hab, beqL_eq hf h]
    · cases h
theorem sameId_eq {i j : Option Nat} (h : sameId i j = true) : i = j := by
  cases i with
  | none => cases h
  | some i =>
    cases j with
    | none => cases h
    | some j => rw [Nat.eq_of_beq_eq_true h]
theorem beqV_eq : ∀ (f : Nat) {a b : NV}, beqV f a b = true → a = b := by
  intro f
  induction f with
  | zero => intro a b h; simp only [beqV, reduceCtorEq] at h
  | succ f ih =>
    intro a b h
    simp only [beqV] at h
    split at h <;> try rfl
    · split at h <;> first | rfl | cases h
    · split at h
      · rename_i hk
        rw [ikEq_iff.1 hk, intBeq_iff.1 h]
      · cases h
    · split at h
      · rename_i hk
        split at h
        · rename_i hi
          split at h
          · rename_i ha
            rw [ikEq_iff.1 hk, sameId_eq hi, intBeq_iff.1 ha, intBeq_iff.1 h]
          · cases h
        · cases h
      · cases h
    · split at h
      · rename_i hk
        rw [Nat.eq_of_beq_eq_true hk, Nat.eq_of_beq_eq_true h]
      · cases h
    · split at h
      · rename_i hk
        rw [Pos.beq_iff.1 hk, Nat.eq_of_beq_eq_true h]
      · cases h
    · split at h
      · rename_i hk
        split at h
        · rename_i hk2
          split at h
          · rename_i hk3
            rw [Pos.beq_iff.1 hk, Nat.eq_of_beq_eq_true hk2, Nat.eq_of_beq_eq_true hk3, capBeq_eq h]
          · cases h
        · cases h
      · cases h
    · rw [Pos.beq_iff.1 h]
    · split at h
      · rename_i hk
        rw [Nat.eq_of_beq_eq_true hk, ih h]
      · cases h
    · rw [beqL_eq (fun _ _ => ih) h]
    · rw [beqL_eq (fun _ _ => ih) h]
    · split at h
      · rename_i hk
        split at h
        · rename_i hk2
          rw [Nat.eq_of_beq_eq_true hk, Nat.eq_of_beq_eq_true hk2, beqL_eq (fun _ _ => ih) h]
        · cases h
      · cases h
    · split at h
      · rename_i hk
        split at h
        · rename_i hk2
          rw [Nat.eq_of_beq_eq_true hk, Nat.eq_of_beq_eq_true hk2, beqL_eq (fun _ _ => ih) h]
        · cases h
      · cases h
    · rw [Nat.eq_of_beq_eq_true h]
    · cases h

theorem copy_ok (r : HR w0 ng ρ h w) {t e : TypeId} {ts : Array TypeId} (hu : P.underlying t = some (.slice e)) (t0 : ts[0]? = some t) (tt : TypeId) {d x : NV} {d' x' : Value} (hd : VR ρ d d') (hx : VR ρ x x') {f : Eff} (hf : copyE P h.rd e d x = some f) :
    Effects P w0 ng ρ h w (Builtin.copy_ ts tt #[d', x']) f := by
  unfold copyE at hf
  split at hf
  · cases hf
  · rename_i ei hti
    obtain ⟨i, z, dd, hi, hz, hdd, h1, h2, h3, h4, h5, h6⟩ := ty_some' hti
    split at hf
    · rename_i dl xl hdl hxl
      obtain ⟨k1, k2⟩ := lenV_ok (P := P) (w := w) hx hxl
      have fin : ∀ (base : Option Addr) (dl c : Nat) (L : List Value) (w' : World), (Builtin.firstCells i.size (Nat.min xl dl) x').run P w = .ok L.toArray w →
          (match base with | some a => (storeCells a L).run P w = .ok () w' | none => w' = w) →
          (Builtin.copy_ ts tt #[.slice base dl c, x']).run P w = .ok (goInt (Nat.min xl dl)) w' := by
        intro base dl c L w' g1 g2
        unfold Builtin.copy_
        cases base with
        | none => subst g2; simp [t0, run_underlying hu, k1, run_sizeOf_of hi, g1]
        | some a => simp only at g2; simp [t0, run_underlying hu, k1, run_sizeOf_of hi, g1, g2]
      split at hf
      · rename_i hmin
        have hz0 : ∀ (base : Option Addr) (c : Nat), Effects P w0 ng ρ h w (Builtin.copy_ ts tt #[.slice base dl c, x']) ⟨[], none, fun _ => numL 0⟩ := by
          intro base c
          refine Effects.same r (VR.numL 0) ?_
          have hmin' : Nat.min xl dl = 0 := hmin
          rw [← hmin']
          refine fin base dl c [] w ?_ ?_
          · rw [hmin']
            rcases k2 with rfl | ⟨a, c, rfl⟩ | ⟨s, rfl, hs⟩
            · exact run_firstCells_none _ _ (.inr (.inl rfl))
            · simp [Builtin.firstCells, loadCells, loadCellsFrom]
            · simp [Builtin.firstCells]
          · cases base with
            | none => rfl
            | some a => rfl
        split at hf
        · cases hf
        · rename_i hns
          cases hf
          cases hd <;> simp only [lenV, Option.some.injEq, reduceCtorEq] at hdl <;> subst hdl
          · exact absurd rfl (hns _ _)
          all_goals exact hz0 _ _
      · rename_i n hmin
        have hmin' : Nat.min xl dl = n + 1 := hmin
        split at hf
        · rename_i p off len cap
          obtain ⟨β, C, c, rfl, hρ, hlc, -⟩ := hd.slice_inv
          simp only [lenV, Option.some.injEq] at hdl
          subst hdl
          split at hf
          · rename_i hby
            have hs1 := isByte_size hby
            rw [h1] at hs1
            split at hf
            · rename_i b hb
              obtain ⟨bs, j1, j2, j3, _⟩ := bytesAt_ok (P := P) r hx hb
              rw [j2, ← j1] at hf
              obtain ⟨b2, rfl, hst⟩ := storeBytesE_ok (P := P) r hρ hf
              refine Effects.of_store (VR.numL _) hst fun w' hw' => ?_
              have := fin (some ⟨β, off, none⟩) len c (byteCells bs) w' (by rw [hmin', hs1]; exact j3) hw'
              rw [hmin'] at this
              rw [j1]
              exact this
            · cases hf
          · split at hf
            · rename_i l hl
              obtain ⟨l', j1, j2, j3, _⟩ := cellsAt_ok (P := P) r hx hl
              obtain ⟨b2, rfl, hst⟩ := storeE_ok (P := P) r hρ j2 hf
              refine Effects.of_store (VR.numL _) hst fun w' hw' => ?_
              have := fin (some ⟨β, off, none⟩) len c l' w' (by rw [hmin', ← h1]; exact j3) hw'
              rw [hmin'] at this
              exact this
            · cases hf
        · cases hf
    · cases hf

theorem zeros_ok (r : HR w0 ng ρ h w) {t u e : TypeId} {ts : Array TypeId} {k : IntKind} (hu : P.underlying t = some (.slice e)) (hu2 : P.underlying u = some (.int k)) (t0 : ts[0]? = some t) (t1 : ts[1]? = some u) (tt : TypeId) {s x : NV} {s' x' : Value} (hs : VR ρ s s') (hx : VR ρ x x') {f : Eff} (hf : zerosE P e s x = some f) :
    Effects P w0 ng ρ h w (Builtin.append_ ts tt #[s', x']) f := by
  unfold zerosE at hf
  split at hf
  · cases hf
  · rename_i ei hti
    obtain ⟨i, z, dd, hi, hz, hdd, h1, h2, h3, h4, h5, h6⟩ := ty_some' hti
    split at hf
    · cases hf
    · rename_i hbytes
      have hbytes : i.bytes ≤ 65536 := by rw [← h2]; exact Nat.le_of_ble_eq_true hbytes
      split at hf
      · cases hf
      · rename_i hsz0
        have hsz1 : 0 < i.size := by rw [← h1]; exact Nat.pos_of_ne_zero fun e0 => hsz0 e0
        split at hf
        · cases hs
          split at hf
          · rename_i n0
            have := hx.int_inv
            subst this
            split at hf
            · rename_i n hn
              obtain ⟨rfl, hlt⟩ := idx_some hn
              have w1 : IntKind.i64.wrap ((n : Nat) : Int) = n := wrap_i64 (by omega)
              have h48 : ¬ ((n : Int) * (i.bytes : Int) > 2 ^ 48) := by
                have : n * i.bytes ≤ 1048577 * 65536 := Nat.mul_le_mul (by omega) hbytes
                have h3 : ((n * i.bytes : Nat) : Int) ≤ 68719542272 := by omega
                rw [Int.natCast_mul] at h3
                omega
              have hneg : ¬ ((n : Int) < 0) := by omega
              split at hf
              · cases hf
                refine Effects.same r .nslice ?_
                have w00 : IntKind.i64.wrap 0 = 0 := by decide
                unfold Builtin.append_
                simp [t0, t1, run_underlying hu, run_underlying hu2, run_sizeOf_of hi, asInt, asIntOf, run_typeInfo_of hi, w00]
              · rename_i hn0
                have hn0 : n ≠ 0 := by rintro rfl; exact hn0 rfl
                have hrun : ∃ (cap : Nat) (cs : Array Value), n ≤ cap ∧ cs.size = cap * i.size ∧ (∀ (j : Nat) v, (repL z.cells.toList n)[j]? = some v → cs[j]? = some v) ∧
                    (Builtin.append_ ts tt #[.slice none 0 0, .int .i64 n]).run P w = .ok (.slice (some ⟨w.heap.size, 0, none⟩) n cap) { w with heap := w.heap.push (.cells cs e), drawn := w.drawn + 1 } := by
                  have hq : n ≤ (Question.appendCap n 0 e).cut (w.tape w.drawn (.appendCap n 0 e)) := by simp [Question.cut]
                  generalize hcap : (Question.appendCap n 0 e).cut (w.tape w.drawn (.appendCap n 0 e)) = newCap at hq
                  have hnc : Builtin.nextslicecap n 0 ≤ 2 * n + 192 := nextcap_le (by omega)
                  have h482 : ¬ (Builtin.nextslicecap n 0 * i.bytes > 2 ^ 48) := by
                    have : Builtin.nextslicecap n 0 * i.bytes ≤ (2 * n + 192) * 65536 := Nat.mul_le_mul hnc hbytes
                    omega
                  have hmax : ¬ (((n : Nat) : Int) > IntKind.i64.max) := by
                    simp [IntKind.max, IntKind.bits, IntKind.signed]; omega
                  have hzl : ∀ m, (Builtin.zeroCells z.cells m).toList = repL z.cells.toList m := by
                    intro m
                    have := zeros_list z.cells m
                    exact this
                  have hzs : ∀ m, (Builtin.zeroCells z.cells m).size = m * i.size := by
                    intro m
                    simp [Builtin.zeroCells, h6]
                  have hmul : ¬ (n * i.size = 0) := by
                    intro hh
                    rcases Nat.mul_eq_zero.1 hh with h | h <;> omega
                  refine ⟨newCap, Builtin.zeroCells z.cells n ++ Builtin.zeroCells z.cells (newCap - n), hq, ?_, fun j v hj => ?_, ?_⟩
                  · rw [Array.size_append, hzs, hzs, ← Nat.add_mul]
                    congr 1
                    omega
                  · rw [← hzl] at hj
                    have hlt : j < (Builtin.zeroCells z.cells n).size := by
                      rcases Nat.lt_or_ge j (Builtin.zeroCells z.cells n).size with h1 | h1
                      · exact h1
                      · rw [List.getElem?_eq_none (by simpa using h1)] at hj; cases hj
                    rw [Array.getElem?_append_left hlt, ← Array.getElem?_toList]
                    exact hj
                  · have hno : ¬ (n ≤ 0) := by omega
                    unfold Builtin.append_
                    simp only [t0, t1, List.getElem?_toArray, List.getElem?_cons_zero, List.getElem?_cons_succ, Sem.run_bind, run_underlying hu, run_underlying hu2, Result.andThen_ok, run_sizeOf_of hi, Sem.run_pure, asInt, asIntOf, w1, if_true, if_neg hneg, run_typeInfo_of hi, if_neg h48,
                      Int.toNat_natCast, if_neg hno, Nat.zero_add, hmax, false_and, if_false, h482, run_choose, Question.forced, Bool.false_eq_true, hcap, run_askRoom, Bool.not_true, if_neg hmul, run_zeroValue_of hi hz]
                    simp only [Builtin.firstCells, Sem.run_pure, Result.andThen_ok, run_newRow]
                    simp
                obtain ⟨cap, cs, g1, g2, g3, g4⟩ := hrun
                have hle : ρ.le (ρ.add h.next (w.heap.size, cap * i.size)) := by
                  intro q x e
                  unfold Rho.add
                  split
                  · rename_i h1; subst h1; rw [r.next_free] at e; cases e
                  · exact e
                have hzz : VR ρ ei.zero z := by rw [h5]; exact ofValue_ok ρ 10 z
                have hlen : (repL z.cells.toList n).length = n * i.size := by
                  rw [repL_eq]
                  simp [h6]
                have hmul : n * i.size ≤ cap * i.size := Nat.mul_le_mul_right _ g1
                have fin : ∀ b, BR (ρ.add h.next (w.heap.size, cap * i.size)) b (cap * i.size) (.cells cs e) → Effects P w0 ng ρ h w (Builtin.append_ ts tt #[.slice none 0 0, .int .i64 n]) ⟨[], some b, fun q => .slice q 0 n (.room ei.size)⟩ := by
                  intro b hb
                  obtain ⟨r', x'⟩ := r.new (w' := { w with heap := w.heap.push (.cells cs e), drawn := w.drawn + 1 }) (o := .cells cs e) (b := b) (C := cap * i.size) rfl rfl rfl rfl hb
                  refine ⟨_, _, _, g4, r', x', ?_⟩
                  refine .room _ 0 n cap ei.size w.heap.size (cap * i.size) (by simp [Rho.add]) g1 (by rw [h1]; omega)
                split at hf
                · rename_i hby
                  have hs1 := isByte_size hby
                  rw [h1] at hs1
                  split at hf
                  · rename_i hz0
                    cases hf
                    have hzz := hzz
                    rw [hz0] at hzz
                    have hzz := hzz.int_inv
                    refine fin _ ⟨g2, by rw [hs1]; omega, .inl rfl, Nat.pow_pos (by omega), fun j hj => ?_⟩
                    refine g3 j _ ?_
                    subst hzz
                    simp only [Value.cells]
                    rw [repL_single, List.getElem?_replicate, if_pos hj]
                    have hb0 : byteAt 0 j = 0 := by rw [byteAt_eq]; simp
                    rw [hb0]
                    rfl
                  · cases hf
                · split at hf
                  · rename_i zl hzl0
                    cases hf
                    have hrep := (hzz.cells hzl0).rep n
                    exact fin _ ⟨cells_prefix (hrep.mono hle) g2 (by rw [hlen]; exact hmul) g3, rfl⟩
                  · cases hf
            · cases hf
          · cases hf
        · cases hf
end
end Go.Ne
/- The evaluator's operations against the model's: 'chainN', all of it. -/
namespace Go.Ne
open Go Go.RowKit
variable [Sig]
section
variable {P : Program} {w0 : World} {ng : Nat} {ρ : Rho} {h : H} {w : World} {ev : Operand → NV} {ev' : Operand → Value}

/-- What a chain operation comes to. -/
def EffectsX (P : Program) (w0 : World) (ng : Nat) (ρ : Rho) (h : H) (w : World) (s : Sem Next) (e : Eff) : Prop :=
  ∃ nx v' w' ρ', s.run P w = .ok nx w' ∧ (nx = .value v' ∨ nx = .skip ∧ v' = undef) ∧ HR w0 ng ρ' (e.app h).1 w' ∧ Ext ρ h w ρ' (e.app h).1 w' ∧ VR ρ' (e.app h).2 v'
theorem Effects.x {s : Sem Value} {e : Eff} (hs : Effects P w0 ng ρ h w s e) : EffectsX P w0 ng ρ h w (do pure (Next.value (← s)) : Sem Next) e := by
  obtain ⟨v', w', ρ', g1, g2, g3, g4⟩ := hs
  exact ⟨_, v', w', ρ', vrun g1, .inl rfl, g2, g3, g4⟩
theorem VR.unit : VR ρ (.tuple []) undef := .tuple [] [] .nil
theorem store_ok (r : HR w0 ng ρ h w) (hE : EvR ρ ev ev') {t : TypeId} {a x : Operand} {e : Eff} (hv : chainN P h.rd ev (.store t a x) = some e) :
    EffectsX P w0 ng ρ h w (do Instr.storeAt t (ev' a) (ev' x); pure .skip : Sem Next) e := by
  have ha := hE a
  have hx := hE x
  simp only [chainN] at hv
  split at hv
  · rename_i p off he
    rw [he] at ha
    obtain ⟨β, C, e', hρ⟩ := ha.ptr_inv
    split at hv
    · rename_i ti hti
      obtain ⟨i, z, d, hi, hz, hd, h1, h2, h3, h4, h5, h6⟩ := ty_some' hti
      split at hv
      · cases hv
      · rename_i l hl
        split at hv
        · rename_i hlen
          have hlen : l.length = ti.size := by rw [← lenL_eq]; exact Nat.eq_of_beq_eq_true hlen
          have hvl := hx.cells hl
          obtain ⟨b2, rfl, w', g1, g2, g3⟩ := storeE_ok (P := P) r hρ hvl hv
          have hsz : (ev' x).cells.size = i.size := by
            have h7 : l.length = (ev' x).cells.size := hvl.length
            rw [← h7, hlen, h1]
          refine ⟨.skip, undef, w', ρ, ?_, .inr ⟨rfl, rfl⟩, g2, g3, VR.unit⟩
          rw [e']
          simp only [Instr.storeAt, Instr.sureAddr, storeVar, Sem.run_bind, Sem.run_pure, Result.andThen_ok, run_sizeOf_of hi, hsz, ne_eq, not_true_eq_false, if_false, g1]
        · cases hv
    · cases hv
  · cases hv
theorem run_setObj_put {β : Nat} {o o' : Obj} (hw : w.heap[β]? = some o) (ho : ∀ c e f, o ≠ .cells c e f) : (setObj β o').run P w = .ok () (World.put w β o') := by
  cases o <;> first | exact absurd rfl (ho _ _ _) | simp [setObj, Sem.run, hw, World.put]
theorem ER.get : ∀ {es : List (NV × NV × Nat)} {es' : List MapEntry} {i : Nat} {a b : NV} {n : Nat}, ER ρ es es' → es[i]? = some (a, b, n) → ∃ m, es'[i]? = some m ∧ VR ρ a m.key
  | _, _, i, a, b, n, .nil, h => by simp at h
  | _, _, 0, a, b, n, .cons k v k' v' born l l' hk hv hl, h => by
    simp at h
    obtain ⟨rfl, _, _⟩ := h
    exact ⟨_, rfl, hk⟩
  | _, _, i + 1, a, b, n, .cons k v k' v' born l l' hk hv hl, h => by
    simp at h
    simpa using hl.get h
theorem ER.put {k v : NV} {k' v' : Value} (hk : VR ρ k k') (hv : VR ρ v v') : ∀ {es : List (NV × NV × Nat)} {es' : List MapEntry} (i : Nat), ER ρ es es' → ER ρ (putEntry es i k v) (es'.modify i fun e => { e with key := k', val := v' })
  | _, _, i, .nil => by simp [putEntry]; exact .nil
  | _, _, 0, .cons a b a' b' born l l' ha hb hl => by
    simp only [putEntry, List.modify_zero_cons]
    exact .cons _ _ _ _ _ _ _ hk hv hl
  | _, _, i + 1, .cons a b a' b' born l l' ha hb hl => by
    simp only [putEntry, List.modify_succ_cons]
    exact .cons _ _ _ _ _ _ _ ha hb (ER.put hk hv i hl)
theorem ER.append {l2 : List (NV × NV × Nat)} {l2' : List MapEntry} (h2 : ER ρ l2 l2') : ∀ {es : List (NV × NV × Nat)} {es' : List MapEntry}, ER ρ es es' → ER ρ (es ++ l2) (es' ++ l2')
  | _, _, .nil => h2
  | _, _, .cons _ _ _ _ _ _ _ ha hb hl => .cons _ _ _ _ _ _ _ ha hb (ER.append h2 hl)
theorem keyStays (old new : Value) (w : World) : ∃ x n, (Instr.keyThatStays old new).run P w = .ok x { w with drawn := n } ∧ (x = old ∨ x = new) := by
  unfold Instr.keyThatStays
  split
  · exact ⟨new, w.drawn, rfl, .inr rfl⟩
  · simp only [Sem.run_bind, run_choose]
    split
    · simp only [Result.andThen_ok, Sem.run_pure]
      split
      · exact ⟨new, w.drawn, rfl, .inr rfl⟩
      · exact ⟨old, w.drawn, rfl, .inl rfl⟩
    · simp only [Result.andThen_ok, Sem.run_pure]
      split
      · exact ⟨new, w.drawn + 1, rfl, .inr rfl⟩
      · exact ⟨old, w.drawn + 1, rfl, .inl rfl⟩
theorem upd_ok (r : HR w0 ng ρ h w) {t : TypeId} {m k v : NV} {m' k' v' : Value} (hm : VR ρ m m') (hk : VR ρ k k') (hv : VR ρ v v') {e : Eff} (hf : updE P h.rd t m k v = some e) :
    EffectsX P w0 ng ρ h w (do Instr.mapUpdate t m' k' v'; pure .skip : Sem Next) e := by
  unfold updE at hf
  split at hf
  · rename_i kt et hkd
    have hu := kd_map hkd
    split at hf
    · rename_i p
      obtain ⟨β, C, rfl, hρ⟩ := hm.map_inv
      split at hf
      · rename_i es clock hb
        obtain ⟨es', q1, q2⟩ := map_blk r hb hρ
        split at hf
        · cases hf
        · rename_i bb hsame
          have hck := checkKey_ok (P := P) (w := w) hsame hk false
          have hkind := sameKey_kind hsame
          have fin : ∀ (es2 : List (NV × NV × Nat)) (c2 : Nat) (es2' : Array MapEntry) (n : Nat), ER ρ es2 es2'.toList → (Instr.mapUpdate t (.map (some β)) k' v').run P w = .ok () (World.put { w with drawn := n } β (.map es2' c2)) →
              EffectsX P w0 ng ρ h w (do Instr.mapUpdate t (.map (some β)) k' v'; pure .skip : Sem Next) ⟨[(p, some (.map es2 c2))], none, fun _ => .tuple []⟩ := by
            intro es2 c2 es2' n hER hrun
            obtain ⟨g1, g2⟩ := (r.drawn n).write (w' := World.put { w with drawn := n } β (.map es2' c2)) (b' := .map es2 c2) (o' := .map es2' c2) hb rfl hρ ⟨rfl, hER⟩ rfl rfl rfl rfl
            have g3 : Ext ρ h w ρ (h.upd p (some (.map es2 c2))) (World.put { w with drawn := n } β (.map es2' c2)) := ⟨g2.le, g2.fresh, g2.next, g2.grow, g2.frame, g2.own⟩
            refine ⟨.skip, undef, _, ρ, ?_, .inr ⟨rfl, rfl⟩, g1, g3, VR.unit⟩
            simp only [Sem.run_bind, hrun, Result.andThen_ok, Sem.run_pure]
          split at hf
          · rename_i i x hfind
            obtain ⟨f', g1, g2⟩ := findKey_ok (P := P) (w := w) r hk hkind q2 hfind
            split at hf
            · rename_i a x1 x2 hnth
              rw [nth_eq] at hnth
              split at hf
              · rename_i hbeq
                have hka := beqV_eq 20 hbeq
                subst hka
                cases hf
                obtain ⟨m, j1, j2⟩ := q2.get hnth
                cases f' with
                | none => exact absurd g2 (by simp [FoundR])
                | some y =>
                obtain ⟨i', y⟩ := y
                have hi : i' = i := by
                  simp only [FoundR] at g2
                  exact g2.1.symm
                subst hi
                have j3 : es'[i']? = some m := by rw [← Array.getElem?_toList]; exact j1
                obtain ⟨x3, n, s1, s2⟩ := keyStays (P := P) m.key k' w
                have hx3 : VR ρ k x3 := by
                  rcases s2 with rfl | rfl
                  · exact j2
                  · exact hk
                refine fin _ clock (es'.modify i' fun e => { e with key := x3, val := v' }) n ?_ ?_
                · rw [Array.toList_modify]
                  exact q2.put hx3 hv i'
                · unfold Instr.mapUpdate
                  simp only [Sem.run_bind, run_underlying hu, Result.andThen_ok, run_getObj_of q1, hck, g1, j3, Option.map_some, Option.getD_some, s1]
                  rw [run_setObj_put (w := { w with drawn := n }) (o := .map es' clock) q1 (by intro c e f hh; cases hh)]
              · cases hf
            · cases hf
          · rename_i hfind
            obtain ⟨f', g1, g2⟩ := findKey_ok (P := P) (w := w) r hk hkind q2 hfind
            cases hf
            cases f' with
            | some y => exact absurd g2 (by simp [FoundR])
            | none =>
            rw [appL_eq]
            refine fin _ _ (es'.push { key := k', val := v', born := clock }) w.drawn ?_ ?_
            · rw [Array.toList_push]
              exact ER.append (.cons _ _ _ _ _ _ _ hk hv .nil) q2
            · unfold Instr.mapUpdate
              simp only [Sem.run_bind, run_underlying hu, Result.andThen_ok, run_getObj_of q1, hck, g1]
              rw [run_setObj_put q1 (by intro c e f hh; cases hh)]
          · cases hf
      · cases hf
    · cases hf
  · cases hf
theorem conv_ok (r : HR w0 ng ρ h w) (hE : EvR ρ ev ev') {s d : TypeId} {x : Operand} {e : Eff} (hv : chainN P h.rd ev (.convert s d x) = some e) :
    Effects P w0 ng ρ h w (convert s d (ev' x)) e := by
  have hx := hE x
  simp only [chainN] at hv
  split at hv
  · cases hv
  · rename_i hsd
    have hsd := Nat.eq_of_beq_eq_true hsd
    subst hsd
    split at hv
    · rename_i e0 hkd
      obtain ⟨hd, hkn⟩ := kd_slice hkd
      split at hv
      · rename_i hke
        have he := kd_int hke
        split at hv
        · rename_i p off len cap hxe
          rw [hxe] at hx
          obtain ⟨β, C, c, e', hρ, hlc, -⟩ := hx.slice_inv
          split at hv
          · rename_i m u hb
            cases hv
            obtain ⟨β', C', o, k1, k2, k3, k4⟩ := r.blk p _ hb
            rw [hρ] at k1
            cases k1
            cases o <;> simp only [BR] at k3
            rename_i cs et fr
            obtain ⟨q1, q2, q3, q4, q5⟩ := k3
            have hfr : ∃ fr2, w.freeze ⟨β, C, none⟩ 1 = World.put w β (.cells cs et fr2) ∧ calm fr2 C := by
              obtain ⟨lo, hi⟩ := fr
              refine ⟨if lo == hi then (C, C + 1) else (min lo C, max hi (C + 1)), ?_, ?_⟩
              · unfold World.freeze World.put
                simp only [Nat.one_ne_zero, if_false]
                congr 1
                apply Array.ext_getElem?
                intro i
                rw [Array.getElem?_modify, Array.getElem?_setIfInBounds]
                by_cases hi : β = i
                · subst hi
                  have := lt_of_some k2
                  rw [if_pos rfl, if_pos rfl, if_pos this, k2]
                  rfl
                · rw [if_neg hi, if_neg hi]
              · by_cases hlh : lo = hi
                · subst hlh
                  simp [calm]
                · have hb2 : (lo == hi) = false := by simp [hlh]
                  rw [hb2]
                  rcases q3 with q3 | q3
                  · exact absurd q3 hlh
                  · refine .inr ?_
                    simp only [Bool.false_eq_true, if_false]
                    exact Nat.le_min.2 ⟨q3, Nat.le_refl _⟩
            obtain ⟨fr2, f1, f2⟩ := hfr
            have hsh : w.shape? β = some (et, C) := by simp [World.shape?, k2, q1]
            obtain ⟨g1, g2⟩ := write_put r (b' := .bytes m u) (o' := .cells cs et fr2) hb rfl hρ ⟨q1, q2, f2, q4, q5⟩
            refine ⟨.slice (some ⟨β, off, none⟩) len c, _, ρ, ?_, g1, g2, ?_⟩
            · rw [e']
              simp only [convert, Sem.run_bind, run_underlying hd, run_underlying he, Result.andThen_ok, beq_self_eq_true, markStringish, run_shape, hsh, run_freeze, Sem.run_pure]
              rw [f1]
            · rw [← e']; exact hx
          · cases hv
        · cases hv
      · cases hv
    · cases hv
theorem range_ok (r : HR w0 ng ρ h w) (hE : EvR ρ ev ev') {t : TypeId} {x : Operand} {e : Eff} (hv : chainN P h.rd ev (.range t x) = some e) :
    Effects P w0 ng ρ h w (Instr.range t (ev' x)) e := by
  have hx := hE x
  simp only [chainN] at hv
  split at hv
  · rename_i hkt
    have ht := kd_str hkt
    split at hv
    · rename_i n a hxe
      rw [hxe] at hx
      obtain ⟨u, e', h1, h2⟩ := hx.str_inv
      cases hv
      obtain ⟨r', x'⟩ := r.new (w' := { w with heap := w.heap.push (.stringIter u 0) }) (o := .stringIter u 0) (b := .iter n a 0) (C := 0) rfl rfl rfl rfl ⟨rfl, h1, h2⟩
      refine ⟨.pointer (some ⟨w.heap.size, 0, none⟩), _, _, ?_, r', x', ?_⟩
      · rw [e']
        simp only [Instr.range, Sem.run_bind, run_underlying ht, Result.andThen_ok, Sem.run_pure]
        rfl
      · exact .ptr _ 0 w.heap.size 0 (by simp [Rho.add])
    · cases hv
  · cases hv
theorem next_ok (r : HR w0 ng ρ h w) (hE : EvR ρ ev ev') {it : Operand} {isS : Bool} (tt : TypeId) {e : Eff} (hv : chainN P h.rd ev (.next it isS) = some e) :
    Effects P w0 ng ρ h w (Instr.next (ev' it) isS tt) e := by
  have hx := hE it
  simp only [chainN] at hv
  split at hv
  · cases hv
  · split at hv
    · rename_i p hpe
      rw [hpe] at hx
      obtain ⟨β, C, e', hρ⟩ := hx.ptr_inv
      split at hv
      · rename_i n a pos hb
        obtain ⟨β', C', o, k1, k2, k3, k4⟩ := r.blk p _ hb
        rw [hρ] at k1
        cases k1
        cases o <;> simp only [BR] at k3
        rename_i s pos'
        obtain ⟨rfl, rfl, rfl⟩ := k3
        have hgo : (getObj β).run P w = .ok (.stringIter s pos) w := by simp [getObj, Sem.run, k2]
        split at hv
        · rename_i hlt
          have hlt : ¬ (pos < s.size) := fun hh => Bool.noConfusion (hlt.symm.trans (Nat.ble_eq_true_of_le hh))
          cases hv
          refine Effects.same r (v' := .tuple #[.bool false]) (.tuple _ _ (.cons _ _ _ _ (.bool _) .nil)) ?_
          rw [e']
          simp only [Instr.next, Sem.run_bind, hgo, Result.andThen_ok, if_neg hlt, Sem.run_pure]
        · rename_i hlt
          have hlt : pos < s.size := by simpa using hlt
          split at hv
          · rename_i hby
            have hby : byteAt (leNat s.data.toList) pos < 128 := by simpa using hby
            cases hv
            have hl : pos < s.data.toList.length := by simpa using hlt
            rw [byteAt_leNat _ _ hl] at hby ⊢
            have hget : (s.get! pos).toNat = (s.data.toList[pos]).toNat := by
              have : pos < s.data.size := hlt
              simp only [ByteArray.get!, Array.getElem_toList]
              rw [getElem!_pos s.data pos this]
            have hdec : Utf8.decode s pos = ((s.data.toList[pos]).toNat, 1) := by
              unfold Utf8.decode
              simp only [Nat.add_zero, hget]
              rw [if_pos hby]
            obtain ⟨g1, g2⟩ := write_put r (b' := .iter s.size (leNat s.data.toList) (Nat.succ pos)) (o' := .stringIter s (pos + 1)) hb rfl hρ ⟨rfl, rfl, rfl⟩
            refine ⟨.tuple #[.bool true, goInt pos, .int .i32 (s.data.toList[pos]).toNat], _, ρ, ?_, g1, g2, ?_⟩
            · rw [e']
              simp only [Instr.next, Sem.run_bind, hgo, Result.andThen_ok, if_pos hlt, hdec, run_setObj_put (o' := .stringIter s (pos + 1)) k2 (by intro c e f hh; cases hh), Sem.run_pure]
            · refine .tuple _ [_, _, _] (.cons _ _ _ _ (.bool _) (.cons _ _ _ _ (VR.numL pos) (.cons _ _ _ _ ?_ .nil)))
              rw [mkInt_eq, wrap_of_inR]
              · exact .int _ _
              · have hq : ∀ q : Nat, q < 128 → inR .i32 (q : Int) = true := by
                  intro q hq
                  rw [inR_iff]
                  simp [IntKind.min, IntKind.max, IntKind.bits, IntKind.signed]
                  omega
                exact hq _ hby
          · cases hv
      · cases hv
    · cases hv
/-- Operations that change memory: what the evaluator says is what the model does. -/
theorem chain_ok (r : HR w0 ng ρ h w) (hE : EvR ρ ev ev') {o : Oper} {e : Eff} (hv : chainN P h.rd ev o.op = some e) : EffectsX P w0 ng ρ h w (execOp ev' o) e := by
  obtain ⟨dst, op, type, pos, after, guard⟩ := o
  simp only at hv
  cases op with
  | store t a x => exact store_ok r hE hv
  | mapUpdate t m k x => simp only [chainN] at hv; exact upd_ok r (hE m) (hE k) (hE x) hv
  | insert t m k x => simp only [chainN] at hv; exact upd_ok r (hE m) (hE k) (hE x) hv
  | convert s d x => exact (conv_ok r hE hv).x
  | range t x => exact (range_ok r hE hv).x
  | next it isS => exact (next_ok r hE type hv).x
  | call c =>
    obtain ⟨callee, args, argTypes⟩ := c
    simp only [chainN] at hv
    cases callee with
    | builtin b =>
      have lift : ∀ {s : Sem Value}, builtin b argTypes type (args.map fun o => match o with | .const _ => true | _ => false) (args.map ev') = (do pure (Next.value (← s)) : Sem Next) → Effects P w0 ng ρ h w s e →
          EffectsX P w0 ng ρ h w (execOp ev' ⟨dst, .call ⟨.builtin b, args, argTypes⟩, type, pos, after, guard⟩) e := by
        intro s h1 h2
        obtain ⟨nx, v', w', ρ', g1, g2⟩ := h2.x
        rw [← h1] at g1
        refine ⟨nx, v', w', ρ', ?_, g2⟩
        simp only [execOp, resolve, Sem.run_bind, Sem.run_pure, Result.andThen_ok, invoke]
        exact g1
      cases b with
      | append =>
        simp only at hv
        split at hv
        · rename_i t u hts
          have t0 : argTypes[0]? = some t := by rw [← Array.getElem?_toList, hts]; rfl
          have t1 : argTypes[1]? = some u := by rw [← Array.getElem?_toList, hts]; rfl
          split at hv
          · rename_i e0 hkt
            obtain ⟨hu, hkn⟩ := kd_slice hkt
            split at hv
            · rename_i k hku
              have hu2 := kd_int hku
              split at hv
              · rename_i s x hx
                obtain ⟨s', x', ea, hs, hx⟩ := args_two hE hx
                refine lift (s := Builtin.append_ argTypes type (args.map ev')) rfl ?_
                rw [ea]
                exact zeros_ok r hu hu2 t0 t1 type hs hx hv
              · cases hv
            · cases hv
            · rename_i hki hko
              split at hv
              · rename_i s x hx
                obtain ⟨s', x', ea, hs, hx⟩ := args_two hE hx
                refine lift (s := Builtin.append_ argTypes type (args.map ev')) rfl ?_
                rw [ea]
                obtain ⟨d, hd, hdk⟩ := kd_some (P := P) (t := u) rfl hko
                have hdi : isIntD d = false := by
                  cases d <;> first | rfl | (exact absurd (kd_of hd) (hki _))
                cases hti : ty P e0 with
                | none => simp only [appendE, hti, reduceCtorEq] at hv
                | some ei =>
                  obtain ⟨i, z, d2, hi, hz, hd2, h1, h2, h3, h4, h5, h6⟩ := ty_some' hti
                  exact append_ok (P := P) r ⟨hu, ⟨d, hd, hdi⟩, hi, hz, h6, h1, h2, t0, t1, fun hb => by rw [← h1]; exact isByte_size hb⟩ hti type hs hx hv
              · cases hv
          · cases hv
        · cases hv
      | copy =>
        simp only at hv
        split at hv
        · rename_i e0 hk
          obtain ⟨t, et, hk⟩ := kd0_some hk (by simp)
          obtain ⟨hu, _⟩ := kd_slice hk
          split at hv
          · rename_i d x hx
            obtain ⟨s', x', ea, hs, hx⟩ := args_two hE hx
            refine lift (s := Builtin.copy_ argTypes type (args.map ev')) rfl ?_
            rw [ea]
            exact copy_ok r hu (by simpa using et) type hs hx hv
          · cases hv
        · cases hv
      | _ => simp only [reduceCtorEq] at hv
    | value f => simp only [reduceCtorEq] at hv
    | invoke rr m => simp only [reduceCtorEq] at hv
  | _ => simp only [chainN, reduceCtorEq] at hv
end
end Go.Ne
