/- The evaluator's operations against the model's: those that ask nothing of memory. -/
import Derived.Test.YtfdmaafadphnfaaGreatDoorNeA
import Derived.Laws.Entries
import Derived.Laws.Strings2
import Derived.Laws.BytesString
set_option linter.unusedSectionVars false
namespace Go.Ne
open Go Go.RowKit
variable [Sig]
/-! ### Types -/
section
variable {P : Program} {t e : TypeId}
theorem knownT_some (h : knownT P t = true) : ∃ d i, P.underlying t = some d ∧ P.info? t = some i ∧ P.cellsOf t = i.size := by
  unfold knownT at h
  split at h
  · rename_i d hd
    cases hi : P.info? t with
    | none => simp [Program.underlying, hi] at hd
    | some i => exact ⟨d, i, hd, rfl, by simp [Program.cellsOf, hi]⟩
  · cases h
theorem kd_some {k : TK} (h : kd P t = k) (hk : k ≠ .other) : ∃ d, P.underlying t = some d ∧ tkOf P d = k := by
  unfold kd at h
  split at h
  · exact ⟨_, by assumption, h⟩
  · exact absurd h.symm hk
theorem kd_int {k : IntKind} (h : kd P t = .int k) : P.underlying t = some (.int k) := by
  obtain ⟨d, hd, h⟩ := kd_some h (by simp)
  cases d <;> simp only [tkOf] at h <;> (try split at h) <;> simp_all
theorem kd_bool (h : kd P t = .bool) : P.underlying t = some .bool := by
  obtain ⟨d, hd, h⟩ := kd_some h (by simp)
  cases d <;> simp only [tkOf] at h <;> (try split at h) <;> simp_all
theorem kd_str (h : kd P t = .str) : P.underlying t = some .string := by
  obtain ⟨d, hd, h⟩ := kd_some h (by simp)
  cases d <;> simp only [tkOf] at h <;> (try split at h) <;> simp_all
theorem kd_ptr (h : kd P t = .ptr e) : P.underlying t = some (.pointer e) := by
  obtain ⟨d, hd, h⟩ := kd_some h (by simp)
  cases d <;> simp only [tkOf] at h <;> (try split at h) <;> simp_all
theorem kd_slice (h : kd P t = .slice e) : P.underlying t = some (.slice e) ∧ knownT P e = true := by
  obtain ⟨d, hd, h⟩ := kd_some h (by simp)
  cases d <;> simp only [tkOf] at h <;> (try split at h) <;> simp_all
theorem kd_array {n : Nat} (h : kd P t = .array n e) : P.underlying t = some (.array n e) ∧ knownT P e = true := by
  obtain ⟨d, hd, h⟩ := kd_some h (by simp)
  cases d <;> simp only [tkOf] at h <;> (try split at h) <;> simp_all
theorem kd_map {k v : TypeId} (h : kd P t = .map k v) : P.underlying t = some (.map k v) := by
  obtain ⟨d, hd, h⟩ := kd_some h (by simp)
  cases d <;> simp only [tkOf] at h <;> (try split at h) <;> simp_all
theorem kd_func (h : kd P t = .func) : ∃ a b c, P.underlying t = some (.func a b c) := by
  obtain ⟨d, hd, h⟩ := kd_some h (by simp)
  cases d <;> simp only [tkOf] at h <;> (try split at h) <;> simp_all
theorem kd_iface (h : kd P t = .iface) : ∃ a, P.underlying t = some (.interface a) := by
  obtain ⟨d, hd, h⟩ := kd_some h (by simp)
  cases d <;> simp only [tkOf] at h <;> (try split at h) <;> simp_all
theorem kd_struct {fs : List FI} (h : kd P t = .struct fs) : ∃ fs', P.underlying t = some (.struct fs') ∧ allKnown P fs'.toList = true ∧ fs = fs'.toList.map (fiOf P) := by
  obtain ⟨d, hd, h⟩ := kd_some h (by simp)
  cases d <;> simp only [tkOf] at h <;> (try split at h) <;> simp_all [mapL_eq]
theorem allKnown_all : ∀ {l : List Field}, allKnown P l = true → ∀ f ∈ l, knownT P f.type = true := by
  intro l
  induction l with
  | nil => intro _ f hf; simp at hf
  | cons a l ih =>
    intro h f hf
    simp only [allKnown] at h
    split at h
    · rename_i ha
      rcases List.mem_cons.1 hf with rfl | hf
      · exact ha
      · exact ih h f hf
    · cases h
theorem ty_some' {ti : TI} (h : ty P t = some ti) : ∃ i z d, P.info? t = some i ∧ i.zero = some z ∧ P.underlying t = some d ∧ ti.size = i.size ∧ ti.bytes = i.bytes ∧ ti.agg = isAggD (some d) ∧ ti.kind = tkOf P d ∧ ti.zero = ofValue 10 z ∧ z.cells.size = i.size := by
  unfold ty at h
  split at h
  · cases h
  · rename_i i hi
    split at h
    · cases h
    · rename_i z hz
      split at h
      · cases h
      · rename_i d hd
        split at h
        · rename_i hl
          have hl := Nat.eq_of_beq_eq_true hl
          rw [lenL_eq] at hl
          cases h
          exact ⟨i, z, d, hi, hz, hd, rfl, rfl, rfl, rfl, rfl, by simpa using hl⟩
        · cases h
theorem ty_some {ti : TI} (h : ty P t = some ti) : ∃ i z d, P.info? t = some i ∧ i.zero = some z ∧ P.underlying t = some d ∧ ti.size = i.size ∧ ti.bytes = i.bytes ∧ ti.agg = isAggD (some d) ∧ ti.kind = tkOf P d ∧ ti.zero = ofValue 10 z := by
  obtain ⟨i, z, d, h1, h2, h3, h4, h5, h6, h7, h8, _⟩ := ty_some' h
  exact ⟨i, z, d, h1, h2, h3, h4, h5, h6, h7, h8⟩
theorem run_sizeOf_of {i : TypeInfo} (h : P.info? t = some i) (w : World) : (sizeOf t).run P w = .ok i.size w := by
  simp [sizeOf, typeInfo, h]
theorem run_typeInfo_of {i : TypeInfo} (h : P.info? t = some i) (w : World) : (typeInfo t).run P w = .ok i w := by
  simp [typeInfo, h]
theorem run_zeroValue_of {i : TypeInfo} {z : Value} (h : P.info? t = some i) (hz : i.zero = some z) (w : World) : (zeroValue t).run P w = .ok z w := by
  simp [zeroValue, typeInfo, h, hz]
theorem run_isAgg_of {d : TypeDesc} (h : P.underlying t = some d) (w : World) : (isAgg t).run P w = .ok (isAggD (some d)) w := by
  unfold isAgg
  simp only [Sem.run_bind, run_underlying h, Result.andThen_ok]
  cases d <;> rfl
/-- A part of an aggregate. -/
theorem part_ok {ρ : Rho} {d : TypeDesc} {i : TypeInfo} (hd : P.underlying t = some d) (hi : P.info? t = some i) {l : List NV} {cs : Array Value} (hl : VRL ρ l cs.toList) {off : Nat} {v : NV}
    (h : part (isAggD (some d)) i.size off l = some v) (w : World) : ∃ v', (Go.part t cs off).run P w = .ok v' w ∧ VR ρ v v' := by
  unfold part at h
  unfold Go.part
  simp only [Sem.run_bind, run_isAgg_of hd, Result.andThen_ok]
  cases hagg : isAggD (some d) with
  | true =>
    rw [hagg] at h
    simp only at h
    split at h
    · rename_i m hm
      cases h
      obtain ⟨h1, h2⟩ := takeN_some hm
      refine ⟨.agg (cs.extract off (off + i.size)), by simp [run_sizeOf_of hi], VR.agg' ?_⟩
      rw [h2, dropN_eq]
      have := (hl.drop off).take i.size
      have e : (cs.extract off (off + i.size)).toList = (cs.toList.drop off).take i.size := by
        simp [Array.toList_extract]
      rw [e]; exact this
    · cases h
  | false =>
    rw [hagg] at h
    simp only at h
    rw [nth_eq] at h
    obtain ⟨v', e, r⟩ := hl.get h
    have e' : cs[off]? = some v' := by rw [← e]; simp
    exact ⟨v', by simp [e'], r⟩
end
end Go.Ne
/- The evaluator's operations against the model's: numbers, strings, bounds. -/
namespace Go.Ne
open Go Go.RowKit
variable [Sig]
theorem vrun {P : Program} {s : Sem Value} {v : Value} {w w' : World} (h : s.run P w = .ok v w') : (do pure (Next.value (← s)) : Sem Next).run P w = .ok (.value v) w' := by
  simp [h]
theorem urun {P : Program} {s : Sem Unit} {w w' : World} (h : s.run P w = .ok () w') : (do s; pure Next.skip : Sem Next).run P w = .ok .skip w' := by
  simp [h]

theorem VR.int_inv {ρ : Rho} {k : IntKind} {n : Int} {v' : Value} (h : VR ρ (.int k n) v') : v' = .int k n := by cases h; rfl
theorem VR.bool_inv {ρ : Rho} {b : Bool} {v' : Value} (h : VR ρ (.bool b) v') : v' = .bool b := by cases h; rfl
theorem VR.str_inv {ρ : Rho} {n a : Nat} {v' : Value} (h : VR ρ (.str n a) v') : ∃ s : ByteArray, v' = .string s ∧ n = s.size ∧ a = leNat s.data.toList := by
  cases h; exact ⟨_, rfl, rfl, rfl⟩
theorem VR.agg_inv {ρ : Rho} {l : List NV} {v' : Value} (h : VR ρ (.agg l) v') : ∃ cs : Array Value, v' = .agg cs ∧ VRL ρ l cs.toList := by
  cases h with | agg _ l' h => exact ⟨l'.toArray, rfl, by simpa using h⟩
theorem VR.tuple_inv {ρ : Rho} {l : List NV} {v' : Value} (h : VR ρ (.tuple l) v') : ∃ cs : Array Value, v' = .tuple cs ∧ VRL ρ l cs.toList := by
  cases h with | tuple _ l' h => exact ⟨l'.toArray, rfl, by simpa using h⟩
theorem VR.ptr_inv {ρ : Rho} {p : Pos} {off : Nat} {v' : Value} (h : VR ρ (.ptr p off) v') : ∃ β C, v' = .pointer (some ⟨β, off, none⟩) ∧ ρ p = some (β, C) := by
  cases h with | ptr _ _ β C h => exact ⟨β, C, rfl, h⟩
theorem VR.slice_inv {ρ : Rho} {p : Pos} {off len : Nat} {cap : Cap} {v' : Value} (h : VR ρ (.slice p off len cap) v') :
    ∃ β C c, v' = .slice (some ⟨β, off, none⟩) len c ∧ ρ p = some (β, C) ∧ len ≤ c ∧ (match cap with | .known k => c = k | .room z => off + c * z = C) := by
  cases h with
  | known _ _ _ c β C h hl => exact ⟨β, C, c, rfl, h, hl, rfl⟩
  | room _ _ _ c z β C h hl hc => exact ⟨β, C, c, rfl, h, hl, hc⟩
theorem VR.fsl_inv {ρ : Rho} {k n : Nat} {l : List NV} {v' : Value} (h : VR ρ (.fsl k n l) v') : ∃ β off c l', v' = .slice (some ⟨β, off, none⟩) n c ∧ Sig.fz k = some (β, off, l') ∧ n ≤ c ∧ VRL ρ l l' := by
  cases h with | fsl _ _ c β off _ l' hk hl h0 h => exact ⟨β, off, c, l', rfl, hk, hl, h⟩
theorem VR.fsl_inv0 {ρ : Rho} {k : Nat} {l : List NV} {v' : Value} (h : VR ρ (.fsl k 0 l) v') : ∃ β off, v' = .slice (some ⟨β, off, none⟩) 0 0 := by
  cases h with | fsl _ _ c β off _ l' hk hl h0 h => obtain rfl := h0 rfl; exact ⟨β, off, rfl⟩
theorem VR.fptr_inv {ρ : Rho} {k o : Nat} {l : List NV} {v' : Value} (h : VR ρ (.fptr k o l) v') : ∃ β off l', v' = .pointer (some ⟨β, off + o, none⟩) ∧ Sig.fz k = some (β, off, l') ∧ VRL ρ l l' := by
  cases h with | fptr _ _ β off _ l' hk h => exact ⟨β, off, l', rfl, hk, h⟩

/-! ### Numbers -/
section
variable {P : Program} {ρ : Rho}
theorem intOp_ok {op : BinOp} {k : IntKind} {a b : Int} {v : NV} (h : intOp op k a b = some v) (hs : isShl op = none) (t : TypeId) (w : World) :
    ∃ v', (binOp op t (.int k a) (.int k b)).run P w = .ok v' w ∧ VR ρ v v' := by
  cases op <;> simp only [isShl, reduceCtorEq] at hs <;> simp only [intOp, mkInt_eq, forceI_eq, intBeq_eq, intBle_eq, negB_eq] at h
  case quo =>
    split at h
    · cases h
    · rename_i hb
      have hb' : b ≠ 0 := by simpa using hb
      cases h
      refine ⟨.int k (k.wrap (Int.tdiv a b)), ?_, .int _ _⟩
      simp [binOp, Op.intDiv, hb']
  case rem =>
    split at h
    · cases h
    · rename_i hb
      have hb' : b ≠ 0 := by simpa using hb
      cases h
      refine ⟨.int k (Int.tmod a b), ?_, .int _ _⟩
      simp [binOp, Op.intDiv, hb']
  all_goals
    cases h
    refine ⟨_, ?_, by constructor⟩
    simp [binOp, Op.intArith, Op.intBits, Op.intCmp]
  case neq => rfl
  case lss => by_cases e : b ≤ a <;> simp [e] <;> omega
  case gtr => by_cases e : a ≤ b <;> simp [e] <;> omega
  all_goals rfl
theorem shiftOp_ok {op : BinOp} {l : Bool} {k j : IntKind} {a b : Int} {v : NV} (hs : isShl op = some l) (h : shiftOp l k a b = some v) (t : TypeId) (w : World) :
    ∃ v', (binOp op t (.int k a) (.int j b)).run P w = .ok v' w ∧ VR ρ v v' := by
  unfold shiftOp at h
  split at h
  · cases h
  · rename_i n
    have hn : ¬ ((Int.ofNat n : Int) < 0) := by simp
    cases op <;> simp only [isShl, Option.some.injEq, reduceCtorEq] at hs <;> subst hs <;> simp only [mkInt_eq, forceI_eq, Option.some.injEq] at h <;> subst h
    · refine ⟨_, ?_, .int _ _⟩
      simp only [binOp, Op.shift, if_neg hn, Sem.run_pure]
      simp [Nat.pow_eq]
    · refine ⟨_, ?_, .int _ _⟩
      simp only [binOp, Op.shift, if_neg hn, Sem.run_pure]
      simp [Nat.pow_eq]

theorem strLt_eq : ∀ (x y : List UInt8) (f : Nat), x.length + y.length < f → strLt f x.length (leNat x) y.length (leNat y) = Op.bytesLess x y
  | x, [], 0, h => by omega
  | x, [], f + 1, h => by cases x <;> simp [strLt, Op.bytesLess]
  | [], b :: y, 0, h => by omega
  | [], b :: y, f + 1, h => by simp [strLt, Op.bytesLess]
  | a :: x, b :: y, 0, h => by omega
  | a :: x, b :: y, f + 1, h => by
    have ih := strLt_eq x y f (by simp at h; omega)
    have h1 : a.toNat < 256 := by simpa using a.toNat_lt
    have h2 : b.toNat < 256 := by simpa using b.toNat_lt
    have e1 : (leNat (a :: x)).mod 256 = a.toNat := by show leNat (a :: x) % 256 = _; simp only [leNat]; omega
    have e2 : (leNat (b :: y)).mod 256 = b.toNat := by show leNat (b :: y) % 256 = _; simp only [leNat]; omega
    have e3 : (leNat (a :: x)).div 256 = leNat x := by show leNat (a :: x) / 256 = _; simp only [leNat]; omega
    have e4 : (leNat (b :: y)).div 256 = leNat y := by show leNat (b :: y) / 256 = _; simp only [leNat]; omega
    simp only [strLt, List.length_cons, e1, e2, e3, e4, ih, Op.bytesLess]
    cases hlt : a.toNat.blt b.toNat with
    | true =>
      have : a < b := by rw [UInt8.lt_iff_toNat_lt]; simpa using hlt
      simp [this]
    | false =>
      have hnl : ¬ a < b := by
        rw [UInt8.lt_iff_toNat_lt]
        intro k
        have h9 : a.toNat.blt b.toNat = true := by rw [Nat.blt_eq]; exact k
        rw [hlt] at h9
        cases h9
      simp only [hnl, decide_false, Bool.false_or]
      cases heq : a.toNat.beq b.toNat with
      | true =>
        have : a = b := UInt8.toNat_inj.1 (Nat.eq_of_beq_eq_true heq)
        simp [this]
      | false =>
        have : a ≠ b := fun e => by rw [e] at heq; simp at heq
        simp [this]
theorem strLt'_eq (s u : ByteArray) : strLt' s.size (leNat s.data.toList) u.size (leNat u.data.toList) = Op.bytesLess s.toList u.toList := by
  have := strLt_eq s.data.toList u.data.toList (s.data.toList.length + u.data.toList.length + 1) (by omega)
  rw [ByteArray.toList_eq, ByteArray.toList_eq, ← this]
  rfl
theorem strEq_eq (s u : ByteArray) : strEq s.size (leNat s.data.toList) u.size (leNat u.data.toList) = (s.toList == u.toList) := by
  rw [ByteArray.toList_eq, ByteArray.toList_eq]
  unfold strEq
  have hs : s.data.toList.length = s.size := by simp
  have hu : u.data.toList.length = u.size := by simp
  cases h1 : s.size.beq u.size with
  | false =>
    have : s.size ≠ u.size := fun e => by rw [e] at h1; simp at h1
    have : s.data.toList ≠ u.data.toList := fun e => this (by rw [← hs, ← hu, e])
    simp only []
    symm
    rw [beq_eq_false_iff_ne]
    exact this
  | true =>
    have e1 := Nat.eq_of_beq_eq_true h1
    cases h2 : (leNat s.data.toList).beq (leNat u.data.toList) with
    | false =>
      have : leNat s.data.toList ≠ leNat u.data.toList := fun e => by rw [e] at h2; simp at h2
      have : s.data.toList ≠ u.data.toList := fun e => this (by rw [e])
      simp only []
      symm
      rw [beq_eq_false_iff_ne]
      exact this
    | true =>
      have e2 := Nat.eq_of_beq_eq_true h2
      have := leNat_inj (l := s.data.toList) (m := u.data.toList) (by omega) e2
      simp only []
      symm
      rw [beq_iff_eq]
      exact this
theorem size_append' (s u : ByteArray) : (s ++ u).size = s.size + u.size := by simp
theorem data_append' (a b : ByteArray) : (a ++ b).data.toList = a.data.toList ++ b.data.toList := by
  simp
theorem joinB_str (s u : ByteArray) : joinB (leNat s.data.toList) s.size (leNat u.data.toList) = leNat (s ++ u).data.toList := by
  rw [data_append', leNat_append, joinB_eq]
  rfl
theorem strOp_ok {op : BinOp} {n a m b : Nat} {x y : ByteArray} {v : NV} (hn : n = x.size) (ha : a = leNat x.data.toList) (hm : m = y.size) (hb : b = leNat y.data.toList)
    (h : strOp op n a m b = some v) (t : TypeId) (w : World) : ∃ v', (binOp op t (.string x) (.string y)).run P w = .ok v' w ∧ VR ρ v v' := by
  subst hn; subst ha; subst hm; subst hb
  cases op <;> simp only [strOp, strEq_eq, strLt'_eq, negB_eq, orB_eq, mkStr_eq, joinB_str, reduceCtorEq] at h
  case add =>
    split at h
    · rename_i hlt
      cases h
      refine ⟨.string (x ++ y), ?_, VR.str' (by rw [size_append']; rfl) rfl⟩
      have : (x.size.add y.size) < 9223372036854775808 := by simpa using hlt
      have hno : ¬ (((x.size + y.size : Nat) : Int) > IntKind.i64.max) := by
        simp [IntKind.max, IntKind.bits, IntKind.signed]
        have e : x.size.add y.size = x.size + y.size := rfl
        omega
      simp only [binOp, Op.stringOp, if_neg hno, Sem.run_pure]
    · cases h
  all_goals
    cases h
    refine ⟨_, ?_, by constructor⟩
    simp only [binOp, Op.stringOp, Sem.run_pure]
  all_goals first | rfl | skip
end
end Go.Ne
/- The evaluator's operations against the model's: all that ask nothing of memory. -/
namespace Go.Ne
open Go Go.RowKit
variable [Sig]
section
variable {P : Program} {ρ : Rho} {ev : Operand → NV} {ev' : Operand → Value}

/-! ### Lists of operands -/
theorem evL_ok (hE : EvR ρ ev ev') (l : List Operand) : VRL ρ (mapL ev l) (l.map ev') := by
  rw [mapL_eq]; exact VRL.map ev ev' hE l

/-! ### Bounds -/
/-- A bound as it was found. -/
def BndR (ev' : Operand → Value) (x : Option Operand) (dflt lim m : Nat) : Prop := (x = none ∧ m = dflt) ∨ ∃ o k, x = some o ∧ ev' o = .int k m ∧ m ≤ lim
theorem bnd_ok (hE : EvR ρ ev ev') {x : Option Operand} {dflt lim m : Nat} (h : bnd (mapO ev x) dflt lim = some m) : BndR ev' x dflt lim m := by
  cases x with
  | none => simp only [mapO, bnd, Option.some.injEq] at h; exact .inl ⟨rfl, h.symm⟩
  | some o =>
    simp only [mapO] at h
    have hr := hE o
    cases he : ev o <;> rw [he] at h <;> simp only [bnd, reduceCtorEq] at h
    rename_i k n
    rw [he] at hr
    obtain ⟨h1, h2⟩ := idx_some h
    exact .inr ⟨o, k, rfl, by rw [hr.int_inv, h1], by omega⟩
theorem run_bnd (k : IntKind) {m lim : Nat} (hm : m ≤ lim) (code : BoundsCode) (w : World) : (Instr.sliceBound (.int k m) lim code).run P w = .ok m w := by
  have h : (0 : Int) ≤ m ∧ (m : Int) ≤ lim := ⟨by omega, by omega⟩
  simp [Instr.sliceBound, asIntOf, h]
theorem bounds_ok (isS : Bool) {len cap l h m : Nat} {lo hi mx : Option Operand} (hm : BndR ev' mx cap cap m) (hmx : mx ≠ none → hi ≠ none) (hh : BndR ev' hi len m h) (hl : BndR ev' lo 0 h l) (w : World) :
    (Instr.sliceBounds isS len cap (lo.map ev') (hi.map ev') (mx.map ev')).run P w = .ok (l, h, m) w := by
  unfold Instr.sliceBounds
  rcases hm with ⟨rfl, rfl⟩ | ⟨om, km, rfl, em, hm⟩
  · rcases hh with ⟨rfl, rfl⟩ | ⟨oh, kh, rfl, eh, hh⟩ <;> rcases hl with ⟨rfl, rfl⟩ | ⟨ol, kl, rfl, el, hl⟩ <;> simp [*, run_bnd]
  · rcases hh with ⟨rfl, rfl⟩ | ⟨oh, kh, rfl, eh, hh⟩
    · exact absurd rfl (hmx (Option.some_ne_none _))
    · rcases hl with ⟨rfl, rfl⟩ | ⟨ol, kl, rfl, el, hl⟩ <;> simp [*, run_bnd]

/-! ### Filling -/
theorem layL_foldl (off : Nat) : ∀ (vs : List Value) (j : Nat) (cs : Array Value), off + j + vs.length ≤ cs.size →
    ((vs.zipIdx j).foldl (fun cs (c, j) => cs.setIfInBounds (off + j) c) cs).size = cs.size ∧
      ∀ i, ((vs.zipIdx j).foldl (fun cs (c, j) => cs.setIfInBounds (off + j) c) cs)[i]? = if off + j ≤ i ∧ i < off + j + vs.length then vs[i - (off + j)]? else cs[i]? := by
  intro vs
  induction vs with
  | nil => intro j cs _; refine ⟨rfl, fun i => ?_⟩; simp; intro h1 h2; omega
  | cons v vs ih =>
    intro j cs h
    simp only [List.length_cons] at h
    simp only [List.zipIdx_cons, List.foldl_cons]
    obtain ⟨h1, h2⟩ := ih (j + 1) (cs.setIfInBounds (off + j) v) (by simp; omega)
    refine ⟨by rw [h1]; simp, fun i => ?_⟩
    rw [h2 i]
    by_cases e : i = off + j
    · subst e
      rw [if_neg (by omega), if_pos (by simp)]
      have hlt : off + j < cs.size := by omega
      simp [hlt]
    · by_cases e2 : off + (j + 1) ≤ i ∧ i < off + (j + 1) + vs.length
      · rw [if_pos e2, if_pos (by simp; omega)]
        have : i - (off + j) = (i - (off + (j + 1))) + 1 := by omega
        rw [this]; simp
      · rw [if_neg e2, if_neg (by simp; omega)]
        rw [Array.getElem?_setIfInBounds_ne (by omega)]
theorem fill_ok (hE : EvR ρ ev ev') {place : Nat → Option (Nat × Nat)} {place' : Nat → Option (Nat × Nat)} (hp : ∀ i x, place i = some x → place' i = some x) :
    ∀ (parts : List (Nat × Operand)) {cs l : List NV} {cs' : Array Value}, VRL ρ cs cs'.toList → fillN place ev parts cs = some l →
      ∃ l', Instr.fill place' cs' (parts.map fun (i, x) => (i, ev' x)) = some l' ∧ VRL ρ l l'.toList := by
  intro parts
  induction parts with
  | nil => intro cs l cs' hr h; simp only [fillN, Option.some.injEq] at h; subst h; exact ⟨cs', rfl, hr⟩
  | cons a parts ih =>
    obtain ⟨i, x⟩ := a
    intro cs l cs' hr h
    simp only [fillN] at h
    split at h
    · cases h
    · rename_i off size hpl
      split at h
      · cases h
      · rename_i vs hvs
        split at h
        · cases h
        · rename_i hlen
          have hlen := Nat.eq_of_beq_eq_true hlen
          rw [lenL_eq] at hlen
          split at h
          · rename_i cs1 hlay
            have hx := (hE x).cells hvs
            obtain ⟨k1, k2, k3⟩ := layL_some hlay
            have hsz : vs.length = (ev' x).cells.size := by rw [hx.length]; simp
            have hcs := hr.length
            simp only [Array.length_toList] at hcs
            obtain ⟨f1, f2⟩ := layL_foldl off (ev' x).cells.toList 0 cs' (by simp; omega)
            have hr1 : VRL ρ cs1 ((((ev' x).cells.toList.zipIdx 0).foldl (fun cs (c, j) => cs.setIfInBounds (off + j) c) cs')).toList := by
              refine VRL.of_get (by simp [k1, f1, hcs]) fun j v v' e e' => ?_
              rw [k3 j] at e
              rw [Array.getElem?_toList, f2 j] at e'
              simp only [Nat.add_zero, Array.length_toList, ← hsz] at e'
              split at e
              · rename_i hj
                rw [if_pos hj] at e'
                exact hx.get' e e'
              · rename_i hj
                rw [if_neg hj] at e'
                exact hr.get' e (by simpa using e')
            obtain ⟨l', e, r⟩ := ih hr1 h
            refine ⟨l', ?_, r⟩
            have hno : ((decide ((ev' x).cells.size ≠ size)) || decide (off + (ev' x).cells.size > cs'.size)) = false := by simp; omega
            simp only [List.map_cons, Instr.fill, hp _ _ hpl]
            rw [if_neg (by rw [hno]; simp)]
            have hz : (ev' x).cells.zipIdx.foldl (fun cs (c, j) => cs.setIfInBounds (off + j) c) cs' = ((ev' x).cells.toList.zipIdx 0).foldl (fun cs (c, j) => cs.setIfInBounds (off + j) c) cs' := by
              rw [← Array.foldl_toList, Array.toList_zipIdx]
            rw [hz]
            exact e
          · cases h
end
end Go.Ne
/- The evaluator's operations against the model's: 'pureN'. -/
namespace Go.Ne
open Go Go.RowKit
variable [Sig]
section
variable {P : Program} {ρ : Rho} {ev : Operand → NV} {ev' : Operand → Value}

theorem addr_add (β off n : Nat) : (⟨β, off, none⟩ : Addr).add n = ⟨β, off + n, none⟩ := by
  unfold Addr.add
  split
  · rename_i h; subst h; rfl
  · rfl
theorem kd_of {t : TypeId} {d : TypeDesc} (h : P.underlying t = some d) : kd P t = tkOf P d := by simp [kd, h]
theorem run_asIntOf {v : Value} {k : IntKind} {n : Int} (h : v = .int k n) (w : World) : (asIntOf v).run P w = .ok (k, n) w := by
  subst h; rfl

theorem build_ok (hE : EvR ρ ev ev') {t : TypeId} {parts : Array (Nat × Operand)} {v : NV} (h : pureN P ev (.build t parts) = some v) (w : World) :
    ∃ v', (Instr.build t (parts.map fun (i, x) => (i, ev' x))).run P w = .ok v' w ∧ VR ρ v v' := by
  simp only [pureN] at h
  split at h
  · cases h
  · rename_i ti hti
    obtain ⟨i, z, d, hi, hz, hd, h1, h2, h3, h4, h5⟩ := ty_some hti
    have hparts : (parts.map fun (i, x) => (i, ev' x)).toList = parts.toList.map fun (i, x) => (i, ev' x) := by simp
    split at h
    · rename_i fs hk
      split at h
      · rename_i l0 hl0
        split at h
        · rename_i l hf
          cases h
          rw [h5] at hl0
          have hzr := ofValue_ok ρ 10 z
          rw [hl0] at hzr
          obtain ⟨cs, rfl, hcs⟩ := hzr.agg_inv
          have hkd : kd P t = .struct fs := by rw [kd_of hd, ← h4, hk]
          obtain ⟨fs', hu, hall, rfl⟩ := kd_struct hkd
          have hplaces : (fs'.mapM (fun f => do pure (f.offset, ← sizeOf f.type)) : Sem (Array (Nat × Nat))).run P w = .ok (fs'.map fun f => (f.offset, P.cellsOf f.type)) w := by
            rw [Array.mapM_eq_mapM_toList]
            have key : ∀ (l : List Field), (∀ f ∈ l, knownT P f.type = true) → (l.mapM (fun f => do pure (f.offset, ← sizeOf f.type)) : Sem (List (Nat × Nat))).run P w = .ok (l.map fun f => (f.offset, P.cellsOf f.type)) w := by
              intro l
              induction l with
              | nil => intro _; simp
              | cons f l ih =>
                intro hl
                obtain ⟨df, if', e1, e2, e3⟩ := knownT_some (hl f (by simp))
                rw [List.mapM_cons]
                simp only [Sem.run_bind, run_sizeOf_of e2, Result.andThen_ok, Sem.run_pure, ih (fun g hg => hl g (by simp [hg])), List.map_cons, e3]
            simp only [Sem.run_map, key _ (allKnown_all hall), Result.andThen_ok]
            rw [show (List.map (fun f : Field => (f.offset, P.cellsOf f.type)) fs'.toList).toArray = fs'.map fun f => (f.offset, P.cellsOf f.type) from Array.ext' (by simp)]
          obtain ⟨l', e, r⟩ := fill_ok hE (place' := fun j => (fs'.map fun f => (f.offset, P.cellsOf f.type))[j]?) (fun j x hx => by
            simp only [fst2, nth_eq] at hx
            simp only [Array.getElem?_map]
            split at hx
            · rename_i f hf
              simp only [List.getElem?_map, Array.getElem?_toList, Option.map_eq_some_iff] at hf
              obtain ⟨f0, e1, e2⟩ := hf
              cases hx
              simp [e1, ← e2, fiOf]
            · cases hx) parts.toList hcs hf
          refine ⟨.agg l', ?_, VR.agg' r⟩
          simp only [Instr.build, Sem.run_bind, run_zeroValue_of hi hz, Result.andThen_ok, run_underlying hu, hplaces, Value.cells, hparts]
          rw [e]
          rfl
        · cases h
      · cases h
    · rename_i n e hk
      split at h
      · rename_i l0 hl0
        split at h
        · rename_i l hf
          cases h
          rw [h5] at hl0
          have hzr := ofValue_ok ρ 10 z
          rw [hl0] at hzr
          obtain ⟨cs, rfl, hcs⟩ := hzr.agg_inv
          have hkd : kd P t = .array n e := by rw [kd_of hd, ← h4, hk]
          obtain ⟨hu, hkn⟩ := kd_array hkd
          obtain ⟨de, ie, e1, e2, e3⟩ := knownT_some hkn
          obtain ⟨l', e', r⟩ := fill_ok hE (place' := fun i => some (i * ie.size, ie.size)) (fun j x hx => by
            rw [e3] at hx; exact hx) parts.toList hcs hf
          refine ⟨.agg l', ?_, VR.agg' r⟩
          simp only [Instr.build, Sem.run_bind, run_zeroValue_of hi hz, Result.andThen_ok, run_underlying hu, run_sizeOf_of e2, Value.cells, hparts]
          rw [e']
          rfl
        · cases h
      · cases h
    · cases h

theorem unary_ok (hE : EvR ρ ev ev') {op : UnOp} {t : TypeId} {x : Operand} {v : NV} (h : pureN P ev (.unOp op t x) = some v) (w : World) :
    ∃ v', (Op.unary op (ev' x)).run P w = .ok v' w ∧ VR ρ v v' := by
  have hx := hE x
  simp only [pureN] at h
  split at h
  · rename_i k n he
    rw [he] at hx
    rw [hx.int_inv]
    cases h
    refine ⟨.int k (k.wrap (0 - n)), by simp [Op.unary, Op.intArith], ?_⟩
    rw [mkInt_eq]
    exact .int _ _
  · rename_i k n he
    rw [he] at hx
    rw [hx.int_inv]
    cases h
    refine ⟨_, by simp only [Op.unary, Op.intBits, Sem.run_pure]; rfl, ?_⟩
    rw [forceI_eq]
    exact .int _ _
  · rename_i b he
    rw [he] at hx
    rw [hx.bool_inv]
    cases h
    refine ⟨.bool (!b), by simp [Op.unary], ?_⟩
    rw [negB_eq]
    exact .bool _
  · cases h

theorem fieldAddr_ok (hE : EvR ρ ev ev') {s : TypeId} {x : Operand} {f : Nat} {v : NV} (h : pureN P ev (.fieldAddr s x f) = some v) (w : World) :
    ∃ v', (Instr.fieldAt s (ev' x) f).run P w = .ok v' w ∧ VR ρ v v' := by
  have hx := hE x
  simp only [pureN] at h
  split at h
  · rename_i p off he
    rw [he] at hx
    obtain ⟨β, C, e', hρ⟩ := hx.ptr_inv
    split at h
    · rename_i fs hk
      obtain ⟨fs', hu, hall, rfl⟩ := kd_struct hk
      split at h
      · rename_i fi hf
        rw [nth_eq] at hf
        simp only [List.getElem?_map, Array.getElem?_toList, Option.map_eq_some_iff] at hf
        obtain ⟨f0, e1, rfl⟩ := hf
        obtain ⟨df, if', k1, k2, k3⟩ := knownT_some (allKnown_all hall f0 (by rw [Array.getElem?_eq_some_iff] at e1; obtain ⟨hlt, rfl⟩ := e1; simp))
        split at h
        · cases h
        · rename_i hsz
          cases h
          have hne : if'.size ≠ 0 := by rw [← k3]; exact hsz
          refine ⟨.pointer (some ⟨β, off + f0.offset, none⟩), ?_, .ptr _ _ β C hρ⟩
          rw [e']
          simp [Instr.fieldAt, run_underlying hu, e1, Instr.sureAddr, fieldPlace, run_sizeOf_of k2, hne, addr_add]
      · cases h
    · cases h
  · rename_i q o l he
    rw [he] at hx
    obtain ⟨β, off, l', e', hq, hl⟩ := hx.fptr_inv
    split at h
    · rename_i fs hk
      obtain ⟨fs', hu, hall, rfl⟩ := kd_struct hk
      split at h
      · rename_i fi hf
        rw [nth_eq] at hf
        simp only [List.getElem?_map, Array.getElem?_toList, Option.map_eq_some_iff] at hf
        obtain ⟨f0, e1, rfl⟩ := hf
        obtain ⟨df, if', k1, k2, k3⟩ := knownT_some (allKnown_all hall f0 (by rw [Array.getElem?_eq_some_iff] at e1; obtain ⟨hlt, rfl⟩ := e1; simp))
        split at h
        · cases h
        · rename_i hsz
          cases h
          have hne : if'.size ≠ 0 := by rw [← k3]; exact hsz
          refine ⟨.pointer (some ⟨β, off + (o + f0.offset), none⟩), ?_, .fptr _ _ β off _ l' hq hl⟩
          rw [e']
          simp [Instr.fieldAt, run_underlying hu, e1, Instr.sureAddr, fieldPlace, run_sizeOf_of k2, hne, addr_add, Nat.add_assoc]
      · cases h
    · cases h
  · cases h

theorem field_ok (hE : EvR ρ ev ev') {t : TypeId} {x : Operand} {f : Nat} {v : NV} (h : pureN P ev (.field t x f) = some v) (w : World) :
    ∃ v', (Instr.field t (ev' x) f).run P w = .ok v' w ∧ VR ρ v v' := by
  have hx := hE x
  simp only [pureN] at h
  split at h
  · rename_i l he
    rw [he] at hx
    obtain ⟨cs, e', hcs⟩ := hx.agg_inv
    split at h
    · rename_i fs hk
      obtain ⟨fs', hu, hall, rfl⟩ := kd_struct hk
      split at h
      · rename_i fi hf
        rw [nth_eq] at hf
        simp only [List.getElem?_map, Array.getElem?_toList, Option.map_eq_some_iff] at hf
        obtain ⟨f0, e1, rfl⟩ := hf
        obtain ⟨df, if', k1, k2, k3⟩ := knownT_some (allKnown_all hall f0 (by rw [Array.getElem?_eq_some_iff] at e1; obtain ⟨hlt, rfl⟩ := e1; simp))
        simp only [fiOf, k1, k3] at h
        obtain ⟨v', e, r⟩ := part_ok k1 k2 hcs h w
        refine ⟨v', ?_, r⟩
        rw [e']
        simp [Instr.field, run_underlying hu, e1, asAgg, e]
      · cases h
    · cases h
  · cases h

theorem indexAddr_ok (hE : EvR ρ ev ev') {t : TypeId} {x i : Operand} {v : NV} (h : pureN P ev (.indexAddr t x i) = some v) (w : World) :
    ∃ v', (Instr.indexAt t (ev' x) (ev' i)).run P w = .ok v' w ∧ VR ρ v v' := by
  have hx := hE x
  have hi := hE i
  simp only [pureN] at h
  split at h
  · rename_i k n hie
    rw [hie] at hi
    have hi := hi.int_inv
    split at h
    · rename_i e hk
      obtain ⟨hu, hkn⟩ := kd_slice hk
      obtain ⟨de, ie, e1, e2, e3⟩ := knownT_some hkn
      split at h
      · rename_i p off len cap he
        rw [he] at hx
        obtain ⟨β, C, c, e', hρ, _, _⟩ := hx.slice_inv
        split at h
        · rename_i m hm
          obtain ⟨rfl, hlt⟩ := idx_some hm
          cases h
          refine ⟨.pointer (some ⟨β, off + m * ie.size, none⟩), ?_, ?_⟩
          · rw [e', hi]
            have hb : (0 : Int) ≤ m ∧ (m : Int) < len := ⟨by omega, by omega⟩
            simp [Instr.indexAt, asIntOf, run_underlying hu, hb, run_sizeOf_of e2, addr_add]
            omega
          · rw [e3]; exact .ptr _ _ β C hρ
        · cases h
      · rename_i q len l he
        rw [he] at hx
        obtain ⟨β, off, c, l', e', hq, _, hl⟩ := hx.fsl_inv
        split at h
        · rename_i m hm
          obtain ⟨rfl, hlt⟩ := idx_some hm
          cases h
          refine ⟨.pointer (some ⟨β, off + m * ie.size, none⟩), ?_, ?_⟩
          · rw [e', hi]
            have hb : (0 : Int) ≤ m ∧ (m : Int) < len := ⟨by omega, by omega⟩
            simp [Instr.indexAt, asIntOf, run_underlying hu, hb, run_sizeOf_of e2, addr_add]
            omega
          · rw [e3]; exact .fptr _ _ β off _ l' hq hl
        · cases h
      · cases h
    · rename_i len e hk
      obtain ⟨hu, hkn⟩ := kd_array hk
      obtain ⟨de, ie, e1, e2, e3⟩ := knownT_some hkn
      split at h
      · rename_i p off he
        rw [he] at hx
        obtain ⟨β, C, e', hρ⟩ := hx.ptr_inv
        split at h
        · rename_i m hm
          obtain ⟨rfl, hlt⟩ := idx_some hm
          cases h
          refine ⟨.pointer (some ⟨β, off + m * ie.size, none⟩), ?_, ?_⟩
          · rw [e', hi]
            have hb : (0 : Int) ≤ m ∧ (m : Int) < len := ⟨by omega, by omega⟩
            simp [Instr.indexAt, asIntOf, run_underlying hu, Instr.sureAddr, hb, run_sizeOf_of e2, addr_add]
            omega
          · rw [e3]; exact .ptr _ _ β C hρ
        · cases h
      · cases h
    · cases h
  · cases h
end
end Go.Ne
/- Numbers that are known by bounds. -/
namespace Go.Ne
open Go Go.RowKit
variable [Sig]

/-- A number between bounds; which one, if that is told. -/
def InS (i : Option Nat) (a b n : Int) : Prop := a ≤ n ∧ n ≤ b ∧ ∀ j, i = some j → n = Sig.σ j
theorem rngN_ok {ρ : Rho} {v : NV} {v' : Value} (h : VR ρ v v') {k : IntKind} {i : Option Nat} {a b : Int} (hr : rngN v = some (k, i, a, b)) : ∃ n, v' = .int k n ∧ InS i a b n := by
  cases h <;> simp only [rngN, Option.some.injEq, Prod.mk.injEq, reduceCtorEq] at hr
  · obtain ⟨rfl, rfl, rfl, rfl⟩ := hr; exact ⟨_, rfl, Int.le_refl _, Int.le_refl _, fun j hj => by cases hj⟩
  · rename_i n h1 h2 h3; obtain ⟨rfl, rfl, rfl, rfl⟩ := hr; exact ⟨n, rfl, h1, h2, h3⟩
theorem sameId_ok {i j : Option Nat} {a b c d n m : Int} (hn : InS i a b n) (hm : InS j c d m) (h : sameId i j = true) : n = m := by
  cases i with
  | none => cases h
  | some i =>
    cases j with
    | none => cases h
    | some j =>
      have := Nat.eq_of_beq_eq_true h
      subst this
      rw [hn.2.2 i rfl, hm.2.2 i rfl]
theorem apartId_ok {i j : Option Nat} {a b c d n m : Int} (hn : InS i a b n) (hm : InS j c d m) (h : apartId i j = true) : n ≠ m := by
  cases i with
  | none => cases h
  | some i =>
    cases j with
    | none => cases h
    | some j =>
      simp only [apartId] at h
      split at h
      · rename_i h1
        have h1 := Nat.eq_of_beq_eq_true h1
        have h2 := Nat.eq_of_beq_eq_true h
        subst h1 h2
        rw [hn.2.2 1 rfl, hm.2.2 2 rfl]
        exact Sig.apart
      · split at h
        · rename_i h1
          have h1 := Nat.eq_of_beq_eq_true h1
          have h2 := Nat.eq_of_beq_eq_true h
          subst h1 h2
          rw [hn.2.2 2 rfl, hm.2.2 1 rfl]
          exact Ne.symm Sig.apart
        · cases h
theorem lessI_iff {a b : Int} : lessI a b = true ↔ a < b := by
  unfold lessI
  cases h : intBle b a with
  | true => have := intBle_iff.1 h; simp; omega
  | false => have : ¬ b ≤ a := fun e => by rw [intBle_iff.2 e] at h; cases h
             simp; omega
theorem orN_iff {a b : Bool} : orN a b = true ↔ a = true ∨ b = true := by cases a <;> cases b <;> simp [orN]
theorem sureB_ok {yes no : Bool} {v : NV} (h : sureB yes no = some v) {x : Bool} (hy : yes = true → x = true) (hn : no = true → x = false) : v = .bool x := by
  unfold sureB at h
  cases yes with
  | true => cases h; rw [hy rfl]
  | false =>
    cases no with
    | true => cases h; rw [hn rfl]
    | false => cases h
theorem sureN_ok {yes no : Bool} {v : NV} (h : sureN yes no = some v) {x : Bool} (hy : yes = true → x = false) (hn : no = true → x = true) : v = .bool x := by
  unfold sureN at h
  cases yes with
  | true => cases h; rw [hy rfl]
  | false =>
    cases no with
    | true => cases h; rw [hn rfl]
    | false => cases h
theorem inR_between {k : IntKind} {a b n : Int} (ha : inR k a = true) (hb : inR k b = true) (h1 : a ≤ n) (h2 : n ≤ b) : inR k n = true := by
  rw [inR_iff] at *
  omega
theorem forceI_id {α : Type} (n : Int) (f : Int → α) : forceI n f = f n := by
  cases n with
  | ofNat m => cases m <;> rfl
  | negSucc m => cases m <;> rfl
theorem log_pow {m : Nat} (h : Nat.beq (Nat.pow 2 (Nat.log2 (Nat.succ m))) (Nat.succ m) = true) : ∃ t, m = 2 ^ t - 1 ∧ 0 < 2 ^ t := by
  have := Nat.eq_of_beq_eq_true h
  refine ⟨Nat.log2 (Nat.succ m), ?_, Nat.pow_pos (by decide)⟩
  have e : (2 : Nat) ^ Nat.log2 (Nat.succ m) = Nat.succ m := this
  omega
theorem max_lt (k : IntKind) : k.max < (2 ^ k.bits : Nat) := by cases k <;> decide
theorem mask_ok {k : IntKind} {n : Int} {t : Nat} (hr : inR k (.ofNat (2 ^ t - 1)) = true) : ∃ r : Nat, intOp .and k n (.ofNat (2 ^ t - 1)) = some (.int k r) ∧ r ≤ 2 ^ t - 1 ∧ (0 ≤ n → n ≤ (2 ^ t - 1 : Nat) → (r : Int) = n) ∧ (r : Int) = n % ((2 ^ t : Nat) : Int) := by
  have hpos : 0 < 2 ^ t := Nat.pow_pos (by decide)
  have hmax := ((inR_iff k _).1 hr).2
  have hlt : 2 ^ t - 1 < 2 ^ k.bits := by
    have := max_lt k
    have e : (Int.ofNat (2 ^ t - 1)) = ((2 ^ t - 1 : Nat) : Int) := rfl
    rw [e] at hmax
    omega
  have h1 : (BitVec.ofInt k.bits (Int.ofNat (2 ^ t - 1))).toNat = 2 ^ t - 1 := by
    rw [BitVec.toNat_ofInt]
    have e : (Int.ofNat (2 ^ t - 1)) = ((2 ^ t - 1 : Nat) : Int) := rfl
    rw [e]
    have : ((2 ^ t - 1 : Nat) : Int) % ((2 ^ k.bits : Nat) : Int) = ((2 ^ t - 1 : Nat) : Int) := Int.emod_eq_of_lt (by omega) (by exact_mod_cast hlt)
    rw [this]; simp
  have h2 : ((BitVec.ofInt k.bits n) &&& (BitVec.ofInt k.bits (Int.ofNat (2 ^ t - 1)))).toNat = (BitVec.ofInt k.bits n).toNat % 2 ^ t := by
    rw [BitVec.toNat_and, h1, Nat.and_two_pow_sub_one_eq_mod]
  have hle : (BitVec.ofInt k.bits n).toNat % 2 ^ t ≤ 2 ^ t - 1 := by have := Nat.mod_lt (BitVec.ofInt k.bits n).toNat hpos; omega
  have hmod : (((BitVec.ofInt k.bits n).toNat % 2 ^ t : Nat) : Int) = n % ((2 ^ t : Nat) : Int) := by
    have hb : (0 : Int) < ((2 ^ k.bits : Nat) : Int) := by have : 0 < 2 ^ k.bits := Nat.pow_pos (by decide)
                                                           omega
    have htb : t ≤ k.bits := by
      rcases Nat.lt_or_ge k.bits t with h | h
      · have : 2 ^ (k.bits + 1) ≤ 2 ^ t := Nat.pow_le_pow_right (by decide) h
        have h2 : 2 ^ (k.bits + 1) = 2 * 2 ^ k.bits := by rw [Nat.pow_succ]; omega
        have : 0 < 2 ^ k.bits := Nat.pow_pos (by decide)
        omega
      · exact h
    rw [BitVec.toNat_ofInt, Int.natCast_emod, Int.toNat_of_nonneg (Int.emod_nonneg _ (by omega)), Int.emod_emod_of_dvd]
    exact Int.natCast_dvd_natCast.2 (Nat.pow_dvd_pow 2 htb)
  refine ⟨(BitVec.ofInt k.bits n).toNat % 2 ^ t, ?_, hle, fun h0 hn => ?_, hmod⟩
  · have hw : k.wrap (((BitVec.ofInt k.bits n).toNat % 2 ^ t : Nat) : Int) = (((BitVec.ofInt k.bits n).toNat % 2 ^ t : Nat) : Int) := by
      refine wrap_of_inR ((inR_iff k _).2 ⟨?_, ?_⟩)
      · have : k.min ≤ 0 := by cases k <;> decide
        omega
      · have e : (Int.ofNat (2 ^ t - 1)) = ((2 ^ t - 1 : Nat) : Int) := rfl
        rw [e] at hmax
        omega
    simp only [intOp, forceI_id]
    rw [h2, hw]
  · rw [BitVec.toNat_ofInt]
    have e1 : n % ((2 ^ k.bits : Nat) : Int) = n := Int.emod_eq_of_lt h0 (by omega)
    rw [e1]
    have : n.toNat % 2 ^ t = n.toNat := Nat.mod_eq_of_lt (by omega)
    rw [this]; omega
theorem symR_ok {op : BinOp} {k : IntKind} {i j : Option Nat} {a b c d n m : Int} {v : NV} (hn : InS i a b n) (hm : InS j c d m) (h : symR op k i a b j c d = some v) : isShl op = none ∧ ∃ u, intOp op k n m = some u ∧ ∀ (ρ : Rho) (w : Value), VR ρ u w → VR ρ v w := by
  obtain ⟨n1, n2, n3⟩ := hn
  obtain ⟨m1, m2, m3⟩ := hm
  have hs : sameId i j = true → n = m := sameId_ok (a := a) (b := b) (c := c) (d := d) ⟨n1, n2, n3⟩ ⟨m1, m2, m3⟩
  have ha : apartId i j = true → n ≠ m := apartId_ok (a := a) (b := b) (c := c) (d := d) ⟨n1, n2, n3⟩ ⟨m1, m2, m3⟩
  cases op with
  | eql =>
    refine ⟨rfl, _, rfl, fun ρ w hw => ?_⟩
    rw [sureB_ok h (x := intBeq n m) (fun e => by rw [hs e, intBeq_iff]) (fun e => by
      rw [← Bool.not_eq_true, intBeq_iff]
      rcases orN_iff.1 e with e | e
      · rw [lessI_iff] at e; omega
      · rcases orN_iff.1 e with e | e
        · rw [lessI_iff] at e; omega
        · exact ha e)]
    exact hw
  | neq =>
    refine ⟨rfl, _, rfl, fun ρ w hw => ?_⟩
    rw [sureN_ok h (x := negB (intBeq n m)) (fun e => by rw [hs e, (intBeq_iff (a := m) (b := m)).2 rfl]; rfl) (fun e => by
      have : intBeq n m = false := by
        rw [← Bool.not_eq_true, intBeq_iff]
        rcases orN_iff.1 e with e | e
        · rw [lessI_iff] at e; omega
        · rcases orN_iff.1 e with e | e
          · rw [lessI_iff] at e; omega
          · exact ha e
      rw [this]; rfl)]
    exact hw
  | lss =>
    refine ⟨rfl, _, rfl, fun ρ w hw => ?_⟩
    rw [sureB_ok h (x := negB (intBle m n)) (fun e => by
      have : intBle m n = false := by rw [← Bool.not_eq_true, intBle_iff]; rw [lessI_iff] at e; omega
      rw [this]; rfl) (fun e => by
      have : intBle m n = true := by rw [intBle_iff] at e ⊢; omega
      rw [this]; rfl)]
    exact hw
  | leq =>
    refine ⟨rfl, _, rfl, fun ρ w hw => ?_⟩
    rw [sureB_ok h (x := intBle n m) (fun e => by rw [intBle_iff] at e ⊢; omega) (fun e => by rw [← Bool.not_eq_true, intBle_iff]; rw [lessI_iff] at e; omega)]
    exact hw
  | gtr =>
    refine ⟨rfl, _, rfl, fun ρ w hw => ?_⟩
    rw [sureB_ok h (x := negB (intBle n m)) (fun e => by
      have : intBle n m = false := by rw [← Bool.not_eq_true, intBle_iff]; rw [lessI_iff] at e; omega
      rw [this]; rfl) (fun e => by
      have : intBle n m = true := by rw [intBle_iff] at e ⊢; omega
      rw [this]; rfl)]
    exact hw
  | geq =>
    refine ⟨rfl, _, rfl, fun ρ w hw => ?_⟩
    rw [sureB_ok h (x := intBle m n) (fun e => by rw [intBle_iff] at e ⊢; omega) (fun e => by rw [← Bool.not_eq_true, intBle_iff]; rw [lessI_iff] at e; omega)]
    exact hw
  | add =>
    refine ⟨rfl, _, rfl, fun ρ w hw => ?_⟩
    simp only [symR, inSpan] at h
    split at h
    · rename_i e1
      split at h
      · rename_i e2
        cases h
        have hr := inR_between e1 e2 (n := n + m) (show a + c ≤ n + m by omega) (show n + m ≤ b + d by omega)
        rw [mkInt_eq, show Int.add n m = n + m from rfl, wrap_of_inR hr] at hw
        rw [hw.int_inv]
        exact .sint _ _ _ _ _ (show a + c ≤ n + m by omega) (show n + m ≤ b + d by omega) (fun j hj => by cases hj)
      · cases h
    · cases h
  | sub =>
    refine ⟨rfl, _, rfl, fun ρ w hw => ?_⟩
    simp only [symR, inSpan] at h
    split at h
    · rename_i e1
      split at h
      · rename_i e2
        cases h
        have hr := inR_between e1 e2 (n := n - m) (show a - d ≤ n - m by omega) (show n - m ≤ b - c by omega)
        rw [mkInt_eq, show Int.sub n m = n - m from rfl, wrap_of_inR hr] at hw
        rw [hw.int_inv]
        exact .sint _ _ _ _ _ (show a - d ≤ n - m by omega) (show n - m ≤ b - c by omega) (fun j hj => by cases hj)
      · cases h
    · cases h
  | and =>
    refine ⟨rfl, ?_⟩
    simp only [symR, maskN] at h
    split at h
    · cases h
    · rename_i hcd
      have hcd := intBeq_iff.1 hcd
      split at h
      · cases h
      · rename_i q
        split at h
        · cases h
        · rename_i hq
          obtain ⟨t, rfl, hpos⟩ := log_pow hq
          split at h
          · cases h
          · rename_i hr
            have hm' : m = Int.ofNat (2 ^ t - 1) := by omega
            subst hm'
            obtain ⟨r, e1, e2, e3, e4⟩ := mask_ok (n := n) hr
            refine ⟨_, e1, fun ρ w hw => ?_⟩
            rw [hw.int_inv]
            have wide : VR ρ (.sint k (maskId i (2 ^ t - 1)) (.ofNat 0) (.ofNat (2 ^ t - 1))) (.int k r) := .sint _ _ _ _ _ (by show (0 : Int) ≤ r; omega) (by show (r : Int) ≤ ((2 ^ t - 1 : Nat) : Int); omega) (fun j hj => by
              cases i with
              | none => cases hj
              | some i =>
                have hm : 2 ^ t - 1 = 65535 := by
                  simp only [maskId] at hj
                  split at hj
                  · cases hj
                  · split at hj
                    · rename_i hb; exact Nat.eq_of_beq_eq_true hb
                    · cases hj
                rw [hm] at hj
                rw [e4, Sig.cut i j hj, n3 i rfl]
                have : ((2 ^ t : Nat) : Int) = 65536 := by omega
                rw [this])
            split at h
            · rename_i r' hk
              cases h
              cases i with
              | none => cases hk
              | some i =>
                have hs := Sig.msk i _ _ hk
                have e5 : ((2 ^ t - 1 + 1 : Nat) : Int) = ((2 ^ t : Nat) : Int) := by congr 1; omega
                rw [e5, ← n3 i rfl, ← e4] at hs
                rw [hs]
                exact .int _ _
            split at h
            · cases h; exact wide
            · rename_i h0
              split at h
              · rename_i hb
                cases h
                have h0 : (0 : Int) ≤ a := intBle_iff.1 h0
                have hb : b ≤ ((2 ^ t - 1 : Nat) : Int) := intBle_iff.1 hb
                rw [e3 (by omega) (by omega)]
                exact .sint _ _ _ _ _ n1 n2 n3
              · cases h; exact wide
  | _ => simp only [symR, reduceCtorEq] at h
theorem symO_ok {ρ : Rho} {op : BinOp} {x y v : NV} {x' y' : Value} (hx : VR ρ x x') (hy : VR ρ y y') (h : symO op x y = some v) : ∃ k n m, x' = .int k n ∧ y' = .int k m ∧ isShl op = none ∧ ∃ u, intOp op k n m = some u ∧ ∀ w : Value, VR ρ u w → VR ρ v w := by
  unfold symO at h
  split at h
  · cases h
  · rename_i k i a b hr
    split at h
    · cases h
    · rename_i j i' c d hr'
      split at h
      · rename_i hk
        obtain rfl := ikEq_iff.1 hk
        obtain ⟨n, rfl, hn⟩ := rngN_ok hx hr
        obtain ⟨m, rfl, hm⟩ := rngN_ok hy hr'
        obtain ⟨h1, u, h2, h3⟩ := symR_ok hn hm h
        exact ⟨k, n, m, rfl, rfl, h1, u, h2, h3 ρ⟩
      · cases h
end Go.Ne
/- The evaluator's operations against the model's: 'pureN', all of it. -/
namespace Go.Ne
open Go Go.RowKit
variable [Sig]
section
variable {P : Program} {ρ : Rho} {ev : Operand → NV} {ev' : Operand → Value}

theorem str_get {s : ByteArray} {m : Nat} (h : m < s.size) : ∃ b, s[m]? = some b ∧ (byteAt (leNat s.data.toList) m : Int) = (b.toNat : Int) := by
  refine ⟨s[m], by simp [h], ?_⟩
  rw [byteAt_leNat _ _ (by simpa using h)]
  rfl
theorem index_ok (hE : EvR ρ ev ev') {t : TypeId} {x i : Operand} {v : NV} (h : pureN P ev (.index t x i) = some v) (w : World) :
    ∃ v', (Instr.index t (ev' x) (ev' i)).run P w = .ok v' w ∧ VR ρ v v' := by
  have hx := hE x
  have hi := hE i
  simp only [pureN] at h
  split at h
  · rename_i k n hie
    rw [hie] at hi
    have hi := hi.int_inv
    split at h
    · rename_i hk
      have hu := kd_str hk
      split at h
      · rename_i len val he
        rw [he] at hx
        obtain ⟨s, e', h1, h2⟩ := hx.str_inv
        split at h
        · rename_i m hm
          obtain ⟨rfl, hlt⟩ := idx_some hm
          cases h
          subst h1; subst h2
          obtain ⟨b, hb, hbn⟩ := str_get hlt
          refine ⟨.int .u8 b.toNat, ?_, ?_⟩
          · rw [e', hi]
            have h0 : (0 : Int) ≤ m := by omega
            simp [Instr.index, asIntOf, run_underlying hu, h0, hb]
          · rw [mkInt_eq]
            have hlt : b.toNat < 256 := by simpa using b.toNat_lt
            have hw : IntKind.u8.wrap (Int.ofNat (byteAt (leNat s.data.toList) m)) = (b.toNat : Int) := by
              have e : Int.ofNat (byteAt (leNat s.data.toList) m) = (b.toNat : Int) := hbn
              rw [e]
              simp only [IntKind.wrap, IntKind.bits, IntKind.signed, Bool.false_and, Bool.false_eq_true, if_false]
              omega
            rw [hw]
            exact .int _ _
        · cases h
      · cases h
    · rename_i len e hk
      obtain ⟨hu, hkn⟩ := kd_array hk
      obtain ⟨de, ie, e1, e2, e3⟩ := knownT_some hkn
      split at h
      · rename_i l he
        rw [he] at hx
        obtain ⟨cs, e', hcs⟩ := hx.agg_inv
        split at h
        · rename_i m hm
          obtain ⟨rfl, hlt⟩ := idx_some hm
          rw [e1, e3] at h
          obtain ⟨v', e, r⟩ := part_ok e1 e2 hcs h w
          refine ⟨v', ?_, r⟩
          rw [e', hi]
          have hb : (0 : Int) ≤ m ∧ (m : Int) < len := ⟨by omega, by omega⟩
          simp only [Instr.index, asIntOf, Sem.run_bind, Sem.run_pure, Result.andThen_ok, run_underlying hu, if_pos hb, run_sizeOf_of e2, Int.toNat_natCast]
          exact e
        · cases h
      · cases h
    · cases h
  · cases h

theorem extract_ok (hE : EvR ρ ev ev') {x : Operand} {i : Nat} {v : NV} (h : pureN P ev (.extract x i) = some v) (w : World) :
    ∃ v', (Instr.extract (ev' x) i).run P w = .ok v' w ∧ VR ρ v v' := by
  have hx := hE x
  simp only [pureN] at h
  split at h
  · rename_i l he
    rw [he] at hx
    obtain ⟨cs, e', hcs⟩ := hx.tuple_inv
    rw [nth_eq] at h
    obtain ⟨v', e, r⟩ := hcs.get h
    have e2 : cs[i]? = some v' := by rw [← e]; simp
    refine ⟨v', ?_, r⟩
    rw [e']
    simp [Instr.extract, e2]
  · cases h

theorem eqGuard_int (op : BinOp) (t : TypeId) (x y : Operand) (k j : IntKind) (a b : Int) (w : World) : (eqGuard op t x y (.int k a) (.int j b)).run P w = .ok () w := by
  unfold eqGuard
  cases op <;> rfl
theorem eqGuard_str (op : BinOp) (t : TypeId) (x y : Operand) (a b : ByteArray) (w : World) : (eqGuard op t x y (.string a) (.string b)).run P w = .ok () w := by
  unfold eqGuard
  cases op <;> rfl
theorem binP_ok (hE : EvR ρ ev ev') {op : BinOp} {t : TypeId} {x y : Operand} {v : NV} (h : binP op (ev x) (ev y) = some v) (w : World) :
    ∃ v', (do eqGuard op t x y (ev' x) (ev' y); binOp op t (ev' x) (ev' y) : Sem Value).run P w = .ok v' w ∧ VR ρ v v' := by
  have hx := hE x
  have hy := hE y
  unfold binP at h
  split at h
  · rename_i k a j b hex hey
    rw [hex] at hx
    rw [hey] at hy
    rw [hx.int_inv, hy.int_inv]
    simp only [Sem.run_bind, eqGuard_int, Result.andThen_ok]
    split at h
    · rename_i l hl
      exact shiftOp_ok hl h t w
    · rename_i hl
      split at h
      · rename_i hk
        obtain rfl := ikEq_iff.1 hk
        exact intOp_ok h hl t w
      · cases h
  · rename_i n a m b hex hey
    rw [hex] at hx
    rw [hey] at hy
    obtain ⟨s, e1, h1, h2⟩ := hx.str_inv
    obtain ⟨u, e2, h3, h4⟩ := hy.str_inv
    rw [e1, e2]
    simp only [Sem.run_bind, eqGuard_str, Result.andThen_ok]
    exact strOp_ok h1 h2 h3 h4 h t w
  · obtain ⟨k, n, m, e1, e2, hl, u, e3, e4⟩ := symO_ok hx hy h
    rw [e1, e2]
    simp only [Sem.run_bind, eqGuard_int, Result.andThen_ok]
    obtain ⟨v', g1, g2⟩ := intOp_ok (ρ := ρ) e3 hl t w
    exact ⟨v', g1, e4 v' g2⟩

theorem extract_toList (s : ByteArray) (l h : Nat) : (s.extract l h).data.toList = (s.data.toList.drop l).take (h - l) := by
  rw [ByteArray.data_extract, Array.toList_extract, List.extract_eq_take_drop]
theorem sliceStr_ok (hE : EvR ρ ev ev') {t : TypeId} {x : Operand} {lo hi mx : Option Operand} {v : NV} (h : pureN P ev (.slice t x lo hi mx) = some v) (w : World) :
    ∃ v', (Instr.sliceAt t (ev' x) (lo.map ev') (hi.map ev') (mx.map ev')).run P w = .ok v' w ∧ VR ρ v v' := by
  have hx := hE x
  simp only [pureN] at h
  split at h
  · rename_i hk
    have hu := kd_str hk
    split at h
    · rename_i n a he
      rw [he] at hx
      obtain ⟨s, e', h1, h2⟩ := hx.str_inv
      subst h1; subst h2
      split at h
      · cases h
      · split at h
        · cases h
        · rename_i hh hhi
          split at h
          · cases h
          · rename_i l hlo
            cases h
            have b1 := bnd_ok hE hhi
            have b2 := bnd_ok hE hlo
            have hb := bounds_ok (P := P) false (cap := s.size) (m := s.size) (mx := none) (.inl ⟨rfl, rfl⟩) (fun k => absurd rfl k) b1 b2 w
            have hle : hh ≤ s.size := by rcases b1 with ⟨_, e⟩ | ⟨_, _, _, _, e⟩ <;> omega
            have hle2 : l ≤ hh := by rcases b2 with ⟨_, e⟩ | ⟨_, _, _, _, e⟩ <;> omega
            refine ⟨.string (s.extract l hh), ?_, ?_⟩
            · rw [e']
              simp only [Option.map_none] at hb
              simp only [Instr.sliceAt, Instr.slice, Sem.run_bind, run_underlying hu, Result.andThen_ok, Option.map_none, Option.isSome_none, Bool.false_eq_true, if_false, hb, Sem.run_pure]
            · rw [mkStr_eq]
              have e1 : hh.sub l = hh - l := rfl
              refine VR.str' (by rw [e1, ByteArray.size_extract]; omega) ?_
              rw [e1, cutB_leNat _ _ _ (by simp; omega), extract_toList]
    · cases h
  · cases h

theorem convert_ok (hE : EvR ρ ev ev') {s d : TypeId} {x : Operand} {v : NV} (h : pureN P ev (.convert s d x) = some v) (w : World) :
    ∃ v', (convert s d (ev' x)).run P w = .ok v' w ∧ VR ρ v v' := by
  have hx := hE x
  simp only [pureN] at h
  cases hs : P.underlying s with
  | none =>
    have : kd P s = .other := by simp [kd, hs]
    rw [this] at h
    cases h
  | some ds =>
  split at h
  · cases h
  · cases h
  · split at h
    · rename_i k hk
      have hu := kd_int hk
      split at h
      · rename_i k' n he
        rw [he] at hx
        cases h
        refine ⟨.int k (k.wrap n), ?_, by rw [mkInt_eq]; exact .int _ _⟩
        rw [hx.int_inv]
        cases ds <;> simp [convert, run_underlying hs, run_underlying hu, Conv.intToInt]
      · rename_i k' i a b he
        rw [he] at hx
        split at h
        · rename_i ra
          split at h
          · rename_i rb
            cases h
            obtain ⟨n, e', n1, n2, n3⟩ := rngN_ok hx (k := k') (i := i) (a := a) (b := b) rfl
            refine ⟨.int k (k.wrap n), ?_, ?_⟩
            · rw [e']
              cases ds <;> simp [convert, run_underlying hs, run_underlying hu, Conv.intToInt]
            · rw [wrap_of_inR (inR_between ra rb n1 n2)]
              exact .sint _ _ _ _ _ n1 n2 n3
          · cases h
        · cases h
      · cases h
    · rename_i hk
      have hu := kd_str hk
      split at h
      · rename_i n a he
        rw [he] at hx
        obtain ⟨b, e', h1, h2⟩ := hx.str_inv
        cases h
        refine ⟨.string b, ?_, VR.str' h1 h2⟩
        rw [e']
        cases ds <;> simp [convert, run_underlying hs, run_underlying hu]
      · cases h
    · cases h

theorem run_max2 (k : IntKind) (x y : Int) (w : World) : (Builtin.max2 (.int k x) (.int k y)).run P w = .ok (.int k (if y > x then y else x)) w := rfl
theorem run_min2 (k : IntKind) (x y : Int) (w : World) : (Builtin.min2 (.int k x) (.int k y)).run P w = .ok (.int k (if y < x then y else x)) w := rfl
theorem foldMM_ok (gr : Bool) : ∀ {l : List NV} {x v : NV} {x' : Value} {l' : List Value}, VR ρ x x' → VRL ρ l l' → foldMM gr x l = some v → ∀ (w : World),
    ∃ v', (l'.foldlM (match gr with | true => Builtin.max2 | false => Builtin.min2) x' : Sem Value).run P w = .ok v' w ∧ VR ρ v v'
  | [], x, v, x', _, hx, .nil, h, w => by
    simp only [foldMM, Option.some.injEq] at h
    subst h
    exact ⟨x', by simp, hx⟩
  | y :: l, x, v, x', _, hx, .cons _ y' _ l' hy hl, h, w => by
    cases x with
    | int k a =>
      cases y with
      | int j b =>
        simp only [foldMM] at h
        split at h
        · rename_i hk
          obtain rfl := ikEq_iff.1 hk
          rw [hx.int_inv, hy.int_inv]
          rw [List.foldlM_cons]
          split at h
          · rename_i hle
            have hle := intBle_iff.1 hle
            cases gr with
            | true =>
              obtain ⟨v', e, r⟩ := foldMM_ok true (.int k b) hl h w
              refine ⟨v', ?_, r⟩
              simp only [Sem.run_bind, run_max2, Result.andThen_ok]
              have : (if b > a then b else a) = b := by split <;> omega
              rw [this]; exact e
            | false =>
              obtain ⟨v', e, r⟩ := foldMM_ok false (.int k a) hl h w
              refine ⟨v', ?_, r⟩
              simp only [Sem.run_bind, run_min2, Result.andThen_ok]
              have : (if b < a then b else a) = a := by split <;> omega
              rw [this]; exact e
          · rename_i hle
            have hle : ¬ a ≤ b := fun e => by rw [intBle_iff.2 e] at hle; cases hle
            cases gr with
            | true =>
              obtain ⟨v', e, r⟩ := foldMM_ok true (.int k a) hl h w
              refine ⟨v', ?_, r⟩
              simp only [Sem.run_bind, run_max2, Result.andThen_ok]
              have : (if b > a then b else a) = a := by split <;> omega
              rw [this]; exact e
            | false =>
              obtain ⟨v', e, r⟩ := foldMM_ok false (.int k b) hl h w
              refine ⟨v', ?_, r⟩
              simp only [Sem.run_bind, run_min2, Result.andThen_ok]
              have : (if b < a then b else a) = b := by split <;> omega
              rw [this]; exact e
        · cases h
      | _ => simp only [foldMM, reduceCtorEq] at h
    | _ => simp only [foldMM, reduceCtorEq] at h

theorem kd0_some {c : Go.Call} {k : TK} (h : kd0 P c = k) (hk : k ≠ .other) : ∃ t, c.argTypes[0]? = some t ∧ kd P t = k := by
  unfold kd0 at h
  split at h
  · exact absurd h.symm hk
  · rename_i t l e
    refine ⟨t, ?_, h⟩
    have : c.argTypes.toList[0]? = some t := by rw [e]; rfl
    simpa using this
theorem args_one (hE : EvR ρ ev ev') {args : Array Operand} {x : NV} (h : mapL ev args.toList = [x]) : ∃ x', args.map ev' = #[x'] ∧ VR ρ x x' := by
  have hl := evL_ok hE args.toList
  rw [h] at hl
  obtain ⟨l⟩ := args
  match l, hl with
  | [o], .cons _ _ _ _ hx _ => exact ⟨ev' o, by simp, hx⟩
theorem args_two (hE : EvR ρ ev ev') {args : Array Operand} {x y : NV} (h : mapL ev args.toList = [x, y]) : ∃ x' y', args.map ev' = #[x', y'] ∧ VR ρ x x' ∧ VR ρ y y' := by
  have hl := evL_ok hE args.toList
  rw [h] at hl
  obtain ⟨l⟩ := args
  match l, hl with
  | [o, o2], .cons _ _ _ _ hx (.cons _ _ _ _ hy _) => exact ⟨ev' o, ev' o2, by simp, hx, hy⟩
theorem VR.numL (n : Nat) : VR ρ (numL n) (goInt n) := by rw [numL_eq]; exact .int _ _
theorem len_ok (hE : EvR ρ ev ev') {c : Go.Call} {ty : TypeId} {v : NV} (hc : c.callee = .builtin .len) (h : pureN P ev (.call c) = some v) (w : World) :
    ∃ v', (Builtin.len_ c.argTypes ty (c.args.map ev')).run P w = .ok v' w ∧ VR ρ v v' := by
  simp only [pureN, hc] at h
  split at h
  · rename_i x hx
    obtain ⟨x', ea, hx⟩ := args_one hE hx
    rw [ea]
    split at h
    · rename_i n e hk
      obtain ⟨t, et, hk⟩ := kd0_some hk (by simp)
      obtain ⟨hu, _⟩ := kd_array hk
      cases h
      exact ⟨_, by simp [Builtin.len_, et, run_underlying hu], VR.numL n⟩
    · rename_i e hk
      obtain ⟨t, et, hk⟩ := kd0_some hk (by simp)
      have hu := kd_ptr hk
      split at h
      · rename_i n e2 hk2
        obtain ⟨hu2, _⟩ := kd_array hk2
        cases h
        exact ⟨_, by simp [Builtin.len_, et, run_underlying hu, run_underlying hu2], VR.numL n⟩
      · cases h
    · rename_i hk
      obtain ⟨t, et, hk⟩ := kd0_some hk (by simp)
      have hu := kd_str hk
      split at h
      · rename_i n a _
        obtain ⟨s, rfl, h1, h2⟩ := hx.str_inv
        cases h
        exact ⟨goInt s.size, by simp [Builtin.len_, et, run_underlying hu], by rw [h1]; exact VR.numL _⟩
      · cases h
    · rename_i e hk
      obtain ⟨t, et, hk⟩ := kd0_some hk (by simp)
      obtain ⟨hu, _⟩ := kd_slice hk
      split at h
      · rename_i p off n cap _
        obtain ⟨β, C, c', rfl, _⟩ := hx.slice_inv
        cases h
        exact ⟨goInt n, by simp [Builtin.len_, et, run_underlying hu], VR.numL _⟩
      · cases hx
        cases h
        exact ⟨_, by simp [Builtin.len_, et, run_underlying hu], VR.numL 0⟩
      · cases hx
        cases h
        exact ⟨_, by simp [Builtin.len_, et, run_underlying hu], VR.numL 0⟩
      · cases hx with
        | anys i a b p n c h1 h2 h3 =>
          cases h
          exact ⟨goInt n, by simp [Builtin.len_, et, run_underlying hu], .sint _ _ _ _ _ h1 h2 h3⟩
      · obtain ⟨β, off, c, l', rfl, _⟩ := hx.fsl_inv
        cases h
        exact ⟨_, by simp [Builtin.len_, et, run_underlying hu], VR.numL _⟩
      · cases h
    · cases h
  · cases h
theorem cap_ok (hE : EvR ρ ev ev') {c : Go.Call} {ty : TypeId} {v : NV} (hc : c.callee = .builtin .cap) (h : pureN P ev (.call c) = some v) (w : World) :
    ∃ v', (Builtin.cap_ c.argTypes ty (c.args.map ev')).run P w = .ok v' w ∧ VR ρ v v' := by
  simp only [pureN, hc] at h
  split at h
  · rename_i e hk
    obtain ⟨t, et, hk⟩ := kd0_some hk (by simp)
    obtain ⟨hu, _⟩ := kd_slice hk
    split at h
    · rename_i hx
      obtain ⟨x', ea, hx⟩ := args_one hE hx
      rw [ea]
      cases hx
      cases h
      exact ⟨goInt 0, by simp [Builtin.cap_, et, run_underlying hu], VR.numL 0⟩
    · rename_i p off len n hx
      obtain ⟨x', ea, hx⟩ := args_one hE hx
      rw [ea]
      obtain ⟨β, C, c', e', _, _, hc'⟩ := hx.slice_inv
      simp only at hc'
      subst hc'
      subst e'
      cases h
      exact ⟨goInt c', by simp [Builtin.cap_, et, run_underlying hu], VR.numL _⟩
    · cases h
  · cases h
theorem max_ok (hE : EvR ρ ev ev') {c : Go.Call} {ty : TypeId} {v : NV} (hc : c.callee = .builtin .max) (h : pureN P ev (.call c) = some v) (w : World) :
    ∃ v', (Builtin.max_ c.argTypes ty (c.args.map ev')).run P w = .ok v' w ∧ VR ρ v v' := by
  simp only [pureN, hc] at h
  split at h
  · rename_i x l hx
    have hl := evL_ok hE c.args.toList
    rw [hx] at hl
    unfold Builtin.max_
    have e : (c.args.map ev').toList = c.args.toList.map ev' := by simp
    rw [e]
    generalize c.args.toList.map ev' = l0 at hl ⊢
    cases hl with
    | cons _ x' _ l' h1 h2 => exact foldMM_ok true h1 h2 h w
  · cases h
theorem min_ok (hE : EvR ρ ev ev') {c : Go.Call} {ty : TypeId} {v : NV} (hc : c.callee = .builtin .min) (h : pureN P ev (.call c) = some v) (w : World) :
    ∃ v', (Builtin.min_ c.argTypes ty (c.args.map ev')).run P w = .ok v' w ∧ VR ρ v v' := by
  simp only [pureN, hc] at h
  split at h
  · rename_i x l hx
    have hl := evL_ok hE c.args.toList
    rw [hx] at hl
    unfold Builtin.min_
    have e : (c.args.map ev').toList = c.args.toList.map ev' := by simp
    rw [e]
    generalize c.args.toList.map ev' = l0 at hl ⊢
    cases hl with
    | cons _ x' _ l' h1 h2 => exact foldMM_ok false h1 h2 h w
  · cases h

/-- Operations that ask nothing of memory: what the evaluator says is what the model does. -/
theorem pure_ok (hE : EvR ρ ev ev') {o : Oper} {v : NV} (h : pureN P ev o.op = some v) (w : World) : ∃ v', (execOp ev' o).run P w = .ok (.value v') w ∧ VR ρ v v' := by
  obtain ⟨dst, op, type, pos, after, guard⟩ := o
  simp only at h
  cases op with
  | move x => simp only [pureN, Option.some.injEq] at h; subst h; exact ⟨_, by simp [execOp], hE x⟩
  | assign x => simp only [pureN, Option.some.injEq] at h; subst h; exact ⟨_, by simp [execOp], hE x⟩
  | pick c a b =>
    have hc := hE c
    simp only [pureN] at h
    split at h
    · rename_i e
      rw [e] at hc
      cases h
      exact ⟨_, by simp [execOp, hc.bool_inv, asBool], hE a⟩
    · rename_i e
      rw [e] at hc
      cases h
      exact ⟨_, by simp [execOp, hc.bool_inv, asBool], hE b⟩
    · cases h
  | build t parts => obtain ⟨v', e, r⟩ := build_ok hE h w; exact ⟨v', by simp only [execOp]; exact vrun e, r⟩
  | nilCheck x =>
    have hx := hE x
    simp only [pureN] at h
    split at h <;> rename_i e <;> (try cases h) <;> rw [e] at hx
    · obtain ⟨β, C, e', _⟩ := hx.ptr_inv
      exact ⟨ev' x, by simp [execOp, e'], hx⟩
    · refine ⟨ev' x, ?_, hx⟩
      simp only [execOp]
      generalize ev' x = y at hx ⊢
      cases hx
      simp
    · refine ⟨ev' x, ?_, hx⟩
      simp only [execOp]
      generalize ev' x = y at hx ⊢
      cases hx
      simp
    · obtain ⟨β, C, c', e', _⟩ := hx.slice_inv
      exact ⟨ev' x, by simp [execOp, e'], hx⟩
    · obtain ⟨β, off, l', e', _⟩ := hx.fptr_inv
      exact ⟨ev' x, by simp [execOp, e'], hx⟩
  | unOp op t x => obtain ⟨v', e, r⟩ := unary_ok hE h w; exact ⟨v', by simp only [execOp]; exact vrun e, r⟩
  | makeInterface t x =>
    simp only [pureN] at h
    split at h
    · cases h
    · cases h
    · rename_i h1 h2
      cases h
      cases hu : P.underlying t with
      | none => exact absurd (by simp [kd, hu]) h2
      | some d =>
        refine ⟨.iface t (ev' x), ?_, .iface t _ _ (hE x)⟩
        cases d <;> first
          | (simp [execOp, Instr.makeInterface, run_underlying hu]; done)
          | exact absurd (by simp [kd, hu, tkOf]) h1
  | makeFunc fn a b =>
    simp only [pureN, Option.some.injEq] at h
    subst h
    refine ⟨.func fn (a.map ev') (b.map ev'), by simp [execOp, Instr.makeFunc], VR.func' ?_ ?_⟩
    · simpa using evL_ok hE a.toList
    · simpa using evL_ok hE b.toList
  | fieldAddr s x f => obtain ⟨v', e, r⟩ := fieldAddr_ok hE h w; exact ⟨v', by simp only [execOp]; exact vrun e, r⟩
  | field t x f => obtain ⟨v', e, r⟩ := field_ok hE h w; exact ⟨v', by simp only [execOp]; exact vrun e, r⟩
  | indexAddr t x i => obtain ⟨v', e, r⟩ := indexAddr_ok hE h w; exact ⟨v', by simp only [execOp]; exact vrun e, r⟩
  | index t x i => obtain ⟨v', e, r⟩ := index_ok hE h w; exact ⟨v', by simp only [execOp]; exact vrun e, r⟩
  | extract x i => obtain ⟨v', e, r⟩ := extract_ok hE h w; exact ⟨v', by simp only [execOp]; exact vrun e, r⟩
  | binOp op t x y u => simp only [pureN] at h; obtain ⟨v', e, r⟩ := binP_ok hE (t := t) h w; exact ⟨v', by simp only [execOp]; exact vrun e, r⟩
  | slice t x lo hi mx => obtain ⟨v', e, r⟩ := sliceStr_ok hE h w; exact ⟨v', by simp only [execOp]; exact vrun e, r⟩
  | convert s d x => obtain ⟨v', e, r⟩ := convert_ok hE h w; exact ⟨v', by simp only [execOp]; exact vrun e, r⟩
  | call c =>
    obtain ⟨callee, args, argTypes⟩ := c
    cases callee with
    | builtin b =>
      cases b with
      | len => obtain ⟨v', e, r⟩ := len_ok hE (ty := type) rfl h w; exact ⟨v', by simp only [execOp, resolve, Sem.run_bind, Sem.run_pure, Result.andThen_ok, invoke, builtin]; rw [e]; rfl, r⟩
      | cap => obtain ⟨v', e, r⟩ := cap_ok hE (ty := type) rfl h w; exact ⟨v', by simp only [execOp, resolve, Sem.run_bind, Sem.run_pure, Result.andThen_ok, invoke, builtin]; rw [e]; rfl, r⟩
      | max => obtain ⟨v', e, r⟩ := max_ok hE (ty := type) rfl h w; exact ⟨v', by simp only [execOp, resolve, Sem.run_bind, Sem.run_pure, Result.andThen_ok, invoke, builtin]; rw [e]; rfl, r⟩
      | min => obtain ⟨v', e, r⟩ := min_ok hE (ty := type) rfl h w; exact ⟨v', by simp only [execOp, resolve, Sem.run_bind, Sem.run_pure, Result.andThen_ok, invoke, builtin]; rw [e]; rfl, r⟩
      | _ => simp only [pureN, reduceCtorEq] at h
    | value f => simp only [pureN, reduceCtorEq] at h
    | invoke r m => simp only [pureN, reduceCtorEq] at h
  | _ => simp only [pureN, reduceCtorEq] at h
end
end Go.Ne
/- The evaluator's operations against the model's: those that read memory. -/
namespace Go.Ne
open Go Go.RowKit
variable [Sig]
section
variable {P : Program} {w0 : World} {ng : Nat} {ρ : Rho} {h : H} {w : World} {ev : Operand → NV} {ev' : Operand → Value}

theorem wrap_u8 {m : Nat} (h : m < 256) : IntKind.u8.wrap (Int.ofNat m) = m := by
  simp only [IntKind.wrap, IntKind.bits, IntKind.signed, Bool.false_and, Bool.false_eq_true, if_false]
  show (m : Int) % 2 ^ 8 = m
  omega
/-- A cell of a block. -/
theorem cellOf_ok {b : NB} {C : Nat} {o : Obj} (hB : BR ρ b C o) {off : Nat} {v : NV} (hc : cellOf b off = some v) {β : Nat} (ho : w.heap[β]? = some o) :
    ∃ v', w.cell? ⟨β, off, none⟩ = some v' ∧ VR ρ v v' := by
  cases b with
  | cells l =>
    cases o <;> simp only [BR] at hB
    rename_i c e fr
    simp only [cellOf, nth_eq] at hc
    obtain ⟨v', e1, r⟩ := hB.1.2.2 off v hc
    exact ⟨v', by simp [World.cell?, ho, e1], r⟩
  | ro l =>
    cases o <;> simp only [BR] at hB
    rename_i c e fr
    simp only [cellOf, nth_eq] at hc
    obtain ⟨v', e1, r⟩ := hB.1.2.2 off v hc
    exact ⟨v', by simp [World.cell?, ho, e1], r⟩
  | bytes n val =>
    cases o <;> simp only [BR] at hB
    rename_i c e fr
    simp only [cellOf] at hc
    split at hc
    · rename_i hlt
      cases hc
      have := hB.2.2.2.2 off (by simpa using hlt)
      refine ⟨_, by simp [World.cell?, ho, this]; rfl, ?_⟩
      rw [mkInt_eq, wrap_u8 (byteAt_lt _ _)]
      exact .int _ _
    · cases hc
  | _ => simp only [cellOf, reduceCtorEq] at hc
theorem cellsOf_ok {b : NB} {C : Nat} {o : Obj} (hB : BR ρ b C o) {off n : Nat} {l : List NV} (hc : cellsOf b off n = some l) {β : Nat} (ho : w.heap[β]? = some o) :
    ∃ l' : List Value, l'.length = n ∧ VRL ρ l l' ∧ ∀ j v, l'[j]? = some v → w.cell? ⟨β, off + j, none⟩ = some v := by
  have gen : ∀ {l0 : List NV} {c : Array Value}, CellsR ρ l0 C c → (∀ j, w.cell? ⟨β, j, none⟩ = c[j]?) → takeN n (dropN off l0) = some l →
      ∃ l' : List Value, l'.length = n ∧ VRL ρ l l' ∧ ∀ j v, l'[j]? = some v → w.cell? ⟨β, off + j, none⟩ = some v := by
    intro l0 c hr hcell ht
    obtain ⟨h1, rfl⟩ := takeN_some ht
    rw [dropN_eq] at h1 ⊢
    simp only [List.length_drop] at h1
    have hsz := hr.1
    have hle := hr.2.1
    refine ⟨(c.toList.drop off).take n, by simp; omega, ?_, fun j v hj => ?_⟩
    · refine VRL.of_get (by simp; omega) fun i v v' e e' => ?_
      rw [List.getElem?_take] at e e'
      split at e
      · rename_i hi
        rw [if_pos hi] at e'
        rw [List.getElem?_drop] at e e'
        obtain ⟨u, hu, r⟩ := hr.2.2 (off + i) v e
        rw [Array.getElem?_toList, hu] at e'
        cases e'
        exact r
      · cases e
    · rw [hcell]
      rw [List.getElem?_take] at hj
      split at hj
      · rw [List.getElem?_drop] at hj
        simpa using hj
      · cases hj
  cases b with
  | cells l0 =>
    cases o <;> simp only [BR] at hB
    exact gen hB.1 (fun j => by simp [World.cell?, ho]) hc
  | ro l0 =>
    cases o <;> simp only [BR] at hB
    exact gen hB.1 (fun j => by simp [World.cell?, ho]) hc
  | _ => simp only [cellsOf, reduceCtorEq] at hc
theorem run_loadCells_of {a : Addr} {l' : List Value} {β off : Nat} (ha : a = ⟨β, off, none⟩) (hc : ∀ (j : Nat) v, l'[j]? = some v → w.cell? ⟨β, off + j, none⟩ = some v) :
    (loadCells a l'.length).run P w = .ok l'.toArray w := by
  subst ha
  exact run_loadCells_list (P := P) w ⟨β, off, none⟩ l' fun j v e => by rw [addr_add]; exact hc j v e
/-- Cells of what the caller gave. -/
theorem fz_cells {w : World} (hz : FzOK w) {k β off : Nat} {l : List NV} {l' : List Value} (hk : Sig.fz k = some (β, off, l')) (hl : VRL ρ l l') {o n : Nat} {m : List NV} (ht : takeN n (dropN o l) = some m) :
    ∃ m' : List Value, m'.length = n ∧ VRL ρ m m' ∧ ∀ j v, m'[j]? = some v → w.cell? ⟨β, off + o + j, none⟩ = some v := by
  obtain ⟨c, t, fr, h1, h2⟩ := hz k β off l' hk
  obtain ⟨h3, rfl⟩ := takeN_some ht
  rw [dropN_eq] at h3 ⊢
  have hlen := hl.length
  simp only [List.length_drop] at h3
  refine ⟨(l'.drop o).take n, by simp; omega, (hl.drop o).take n, fun j v hj => ?_⟩
  rw [List.getElem?_take] at hj
  split at hj
  · rw [List.getElem?_drop] at hj
    have := h2 _ _ hj
    rw [← Nat.add_assoc] at this
    simp [World.cell?, h1, this]
  · cases hj
theorem fz_cell {w : World} (hz : FzOK w) {k β off : Nat} {l : List NV} {l' : List Value} (hk : Sig.fz k = some (β, off, l')) (hl : VRL ρ l l') {o : Nat} {v : NV} (hn : nth l o = some v) :
    ∃ v', w.cell? ⟨β, off + o, none⟩ = some v' ∧ VR ρ v v' := by
  obtain ⟨c, t, fr, h1, h2⟩ := hz k β off l' hk
  rw [nth_eq] at hn
  obtain ⟨v', h3, h4⟩ := hl.get hn
  exact ⟨v', by simp [World.cell?, h1, h2 _ _ h3], h4⟩
theorem run_load_of {a : Addr} {v : Value} (h : w.cell? a = some v) : (load a).run P w = .ok v w := by simp [h]
theorem load_ok (r : HR w0 ng ρ h w) {t : TypeId} {ti : TI} (hti : ty P t = some ti) {p : Pos} {off : Nat} {v : NV} (hl : loadN h.rd ti p off = some v) {β C : Nat} (hρ : ρ p = some (β, C)) :
    ∃ v', (loadVar t ⟨β, off, none⟩).run P w = .ok v' w ∧ VR ρ v v' := by
  obtain ⟨i, z, d, hi, hz, hd, h1, h2, h3, h4, h5⟩ := ty_some hti
  unfold loadN at hl
  split at hl
  · cases hl
  · rename_i b hb
    obtain ⟨β', C', o, e1, e2, e3, _⟩ := r.blk p b hb
    rw [hρ] at e1
    cases e1
    unfold loadVar
    simp only [Sem.run_bind, run_isAgg_of hd, Result.andThen_ok]
    rw [h3] at hl
    cases hagg : isAggD (some d) with
    | true =>
      rw [hagg] at hl
      simp only at hl
      split at hl
      · rename_i l hcs
        cases hl
        obtain ⟨l', k1, k2, k3⟩ := cellsOf_ok e3 hcs e2
        rw [h1] at k1
        refine ⟨.agg l'.toArray, ?_, .agg l l' k2⟩
        have := run_loadCells_of (P := P) rfl k3
        rw [k1] at this
        simp [run_sizeOf_of hi, this]
      · cases hl
    | false =>
      rw [hagg] at hl
      simp only at hl
      obtain ⟨v', k1, k2⟩ := cellOf_ok e3 hl e2
      exact ⟨v', by simp [k1], k2⟩
theorem loadF_ok {w : World} (hz : FzOK w) {t : TypeId} {ti : TI} (hti : ty P t = some ti) {k β off o : Nat} {l : List NV} {l' : List Value} (hk : Sig.fz k = some (β, off, l')) (hl : VRL ρ l l') {v : NV} (hv : part ti.agg ti.size o l = some v) :
    ∃ v', (loadVar t ⟨β, off + o, none⟩).run P w = .ok v' w ∧ VR ρ v v' := by
  obtain ⟨i, z, d, hi, hz', hd, h1, h2, h3, h4, h5⟩ := ty_some hti
  unfold loadVar
  simp only [Sem.run_bind, run_isAgg_of hd, Result.andThen_ok]
  rw [h3] at hv
  unfold part at hv
  cases hagg : isAggD (some d) with
  | true =>
    rw [hagg] at hv
    simp only at hv
    split at hv
    · rename_i m hcs
      cases hv
      obtain ⟨m', k1, k2, k3⟩ := fz_cells hz hk hl hcs
      rw [h1] at k1
      refine ⟨.agg m'.toArray, ?_, .agg m m' k2⟩
      have := run_loadCells_of (P := P) rfl k3
      rw [k1] at this
      simp [run_sizeOf_of hi, this]
    · cases hv
  | false =>
    rw [hagg] at hv
    simp only at hv
    obtain ⟨v', k1, k2⟩ := fz_cell hz hk hl hv
    exact ⟨v', by simp [k1], k2⟩
end
end Go.Ne
/- The evaluator's operations against the model's: ==. -/
namespace Go.Ne
open Go Go.RowKit
variable [Sig]
section
variable {P : Program} {w0 : World} {ng : Nat} {ρ : Rho} {h : H} {w : World}

theorem not_frozen {β off : Nat} {c : Array Value} {e : TypeId} {fr : Nat × Nat} (ho : w.heap[β]? = some (.cells c e fr)) (hf : fr.1 = fr.2) : w.frozen? ⟨β, off, none⟩ = false := by
  obtain ⟨lo, hi⟩ := fr
  simp only at hf
  subst hf
  simp only [World.frozen?, ho]
  simp
theorem sameAddr_other {β γ a b : Nat} {c c' : Array Value} {e e' : TypeId} {fr fr' : Nat × Nat} (h1 : w.heap[β]? = some (.cells c e fr)) (h2 : w.heap[γ]? = some (.cells c' e' fr'))
    (f1 : fr.1 = fr.2) (f2 : fr'.1 = fr'.2) (hne : β ≠ γ) : (sameAddr ⟨β, a, none⟩ ⟨γ, b, none⟩).run P w = .ok false w := by
  have s1 : w.shape? β = some (e, c.size) := by simp [World.shape?, h1]
  have s2 : w.shape? γ = some (e', c'.size) := by simp [World.shape?, h2]
  have n1 : ∀ off, w.frozen? ⟨β, off, none⟩ = false := fun off => not_frozen h1 f1
  have n2 : ∀ off, w.frozen? ⟨γ, off, none⟩ = false := fun off => not_frozen h2 f2
  simp [sameAddr, hne, n1, n2, noView, viewAt, s1, s2, mayBeOne, stringish]

/-- The struct's fields, one by one. -/
theorem eqFields_ok {eqM : TypeId → Value → Value → Sem Bool} {eqA : TypeId → NV → NV → Option Bool} {xs ys : List NV} {cs ds : Array Value}
    (hx : VRL ρ xs cs.toList) (hy : VRL ρ ys ds.toList)
    (ih : ∀ t x y x' y' b, eqA t x y = some b → VR ρ x x' → VR ρ y y' → (eqM t x' y').run P w = .ok b w) :
    ∀ (l : List Field) (b : Bool), (∀ f ∈ l, knownT P f.type = true) →
      eqFields (fun f l => part f.agg f.size f.off l) eqA xs ys (l.map (fiOf P)) = some b →
      (forIn l ((none : Option Bool), ()) (fun f __s => (
        if f.name ≠ "_" then do
          let __do_lift ← Go.part f.type cs f.offset
          let __do_lift_1 ← Go.part f.type ds f.offset
          let __do_lift ← eqM f.type __do_lift __do_lift_1
          if (!__do_lift) = true then pure (ForInStep.done (some false, ()))
            else pure (ForInStep.yield (none, ()))
        else pure (ForInStep.yield (none, ())) : Sem (ForInStep (Option Bool × Unit))))).run P w = .ok (if b then (none, ()) else (some false, ())) w := by
  intro l
  induction l with
  | nil => intro b _ h; simp only [List.map_nil, eqFields, Option.some.injEq] at h; subst h; simp
  | cons f l ihl =>
    intro b hk h
    obtain ⟨df, if', k1, k2, k3⟩ := knownT_some (hk f (by simp))
    have hkl : ∀ g ∈ l, knownT P g.type = true := fun g hg => hk g (by simp [hg])
    rw [List.forIn_cons]
    simp only [List.map_cons, eqFields] at h
    by_cases hn : f.name = "_"
    · have hskip : (fiOf P f).skip = true := by simp [fiOf, hn]
      rw [hskip] at h
      simp only [hn, ne_eq, not_true_eq_false, if_false, pure_bind]
      exact ihl b hkl h
    · have hskip : (fiOf P f).skip = false := by simp [fiOf, hn]
      rw [hskip] at h
      simp only at h
      simp only [ne_eq, hn, not_false_eq_true, if_true]
      split at h
      · rename_i x y hpx hpy
        simp only [fiOf, k1, k3] at hpx hpy
        obtain ⟨x', e1, r1⟩ := part_ok k1 k2 hx hpx w
        obtain ⟨y', e2, r2⟩ := part_ok k1 k2 hy hpy w
        simp only [fiOf] at h
        split at h
        · rename_i heq
          have := ih _ _ _ _ _ _ heq r1 r2
          simp only [Sem.run_bind, e1, e2, this, Result.andThen_ok, Bool.not_true, Bool.false_eq_true, if_false, Sem.run_pure]
          exact ihl b hkl h
        · rename_i heq
          have := ih _ _ _ _ _ _ heq r1 r2
          cases h
          simp [e1, e2, this]
        · cases h
      · cases h
theorem eqElems_ok {e : TypeId} {d : TypeDesc} {i : TypeInfo} (hd : P.underlying e = some d) (hi : P.info? e = some i) {eqM : Value → Value → Sem Bool} {eqA : NV → NV → Option Bool}
    {xs ys : List NV} {cs ds : Array Value} (hx : VRL ρ xs cs.toList) (hy : VRL ρ ys ds.toList)
    (ih : ∀ x y x' y' b, eqA x y = some b → VR ρ x x' → VR ρ y y' → (eqM x' y').run P w = .ok b w) :
    ∀ (n k : Nat) (b : Bool), eqElems (isAggD (some d)) i.size eqA xs ys n (k * i.size) = some b →
      (forIn (List.range' k n) ((none : Option Bool), ()) (fun j __s => (do
          let __do_lift ← Go.part e cs (j * i.size)
          let __do_lift_1 ← Go.part e ds (j * i.size)
          let __do_lift ← eqM __do_lift __do_lift_1
          if (!__do_lift) = true then pure (ForInStep.done (some false, ())) else pure (ForInStep.yield (none, ())) : Sem (ForInStep (Option Bool × Unit))))).run P w
        = .ok (if b then (none, ()) else (some false, ())) w := by
  intro n
  induction n with
  | zero => intro k b h; simp only [eqElems, Option.some.injEq] at h; subst h; simp
  | succ n ihn =>
    intro k b h
    rw [List.range'_succ, List.forIn_cons]
    simp only [eqElems] at h
    split at h
    · rename_i x y hpx hpy
      obtain ⟨x', e1, r1⟩ := part_ok hd hi hx hpx w
      obtain ⟨y', e2, r2⟩ := part_ok hd hi hy hpy w
      split at h
      · rename_i heq
        have := ih _ _ _ _ _ heq r1 r2
        simp only [Sem.run_bind, e1, e2, this, Result.andThen_ok, Bool.not_true, Bool.false_eq_true, if_false, Sem.run_pure]
        have hk : Nat.add (k * i.size) i.size = (k + 1) * i.size := by rw [Nat.add_mul, Nat.one_mul]; rfl
        rw [hk] at h
        exact ihn (k + 1) b h
      · rename_i heq
        have := ih _ _ _ _ _ heq r1 r2
        cases h
        simp [e1, e2, this]
      · cases h
    · cases h

section steps
variable {t e : TypeId} {d : Nat}
theorem eqI_bool (a b : Bool) (hu : P.underlying t = some .bool) : (Op.equalIn (d + 1) t (.bool a) (.bool b)).run P w = .ok (a == b) w := by
  unfold Op.equalIn
  simp only [Sem.run_bind, run_underlying hu, Result.andThen_ok]
  rfl
theorem eqI_int (k k0 : IntKind) (a b : Int) (hu : P.underlying t = some (.int k0)) : (Op.equalIn (d + 1) t (.int k a) (.int k b)).run P w = .ok (a == b) w := by
  unfold Op.equalIn
  simp only [Sem.run_bind, run_underlying hu, Result.andThen_ok]
  simp
theorem eqI_str (a b : ByteArray) (hu : P.underlying t = some .string) : (Op.equalIn (d + 1) t (.string a) (.string b)).run P w = .ok (a == b) w := by
  unfold Op.equalIn
  simp only [Sem.run_bind, run_underlying hu, Result.andThen_ok]
  rfl
theorem eqI_pp  (hu : P.underlying t = some (.pointer e)) : (Op.equalIn (d + 1) t (.pointer none) (.pointer none)).run P w = .ok true w := by
  unfold Op.equalIn
  simp only [Sem.run_bind, run_underlying hu, Result.andThen_ok]
  rfl
theorem eqI_pq (a : Addr) (hu : P.underlying t = some (.pointer e)) : (Op.equalIn (d + 1) t (.pointer none) (.pointer (some a))).run P w = .ok false w := by
  unfold Op.equalIn
  simp only [Sem.run_bind, run_underlying hu, Result.andThen_ok]
  rfl
theorem eqI_qp (a : Addr) (hu : P.underlying t = some (.pointer e)) : (Op.equalIn (d + 1) t (.pointer (some a)) (.pointer none)).run P w = .ok false w := by
  unfold Op.equalIn
  simp only [Sem.run_bind, run_underlying hu, Result.andThen_ok]
  rfl
theorem eqI_qq {i : TypeInfo} (a b : Addr) (x : Bool) (hu : P.underlying t = some (.pointer e)) (hi : P.info? e = some i) (hz : i.size ≠ 0) (hs : (sameAddr a b).run P w = .ok x w) :
    (Op.equalIn (d + 1) t (.pointer (some a)) (.pointer (some b))).run P w = .ok x w := by
  unfold Op.equalIn
  simp only [Sem.run_bind, run_underlying hu, Result.andThen_ok, run_sizeOf_of hi, if_pos hz, hs]
theorem eqI_ii (ms : Array (String × TypeId)) (hu : P.underlying t = some (.interface ms)) : (Op.equalIn (d + 1) t .nilIface .nilIface).run P w = .ok true w := by
  unfold Op.equalIn
  simp only [Sem.run_bind, run_underlying hu, Result.andThen_ok]
  rfl
theorem eqI_ij (ms : Array (String × TypeId)) (u : TypeId) (v : Value) (hu : P.underlying t = some (.interface ms)) : (Op.equalIn (d + 1) t .nilIface (.iface u v)).run P w = .ok false w := by
  unfold Op.equalIn
  simp only [Sem.run_bind, run_underlying hu, Result.andThen_ok]
  rfl
theorem eqI_ji (ms : Array (String × TypeId)) (u : TypeId) (v : Value) (hu : P.underlying t = some (.interface ms)) : (Op.equalIn (d + 1) t (.iface u v) .nilIface).run P w = .ok false w := by
  unfold Op.equalIn
  simp only [Sem.run_bind, run_underlying hu, Result.andThen_ok]
  rfl
theorem eqI_ss (a b c g : Nat) (hu : P.underlying t = some (.slice e)) : (Op.equalIn (d + 1) t (.slice none a b) (.slice none c g)).run P w = .ok true w := by
  unfold Op.equalIn
  simp only [Sem.run_bind, run_underlying hu, Result.andThen_ok]
  rfl
theorem eqI_st (a b c g : Nat) (p : Addr) (hu : P.underlying t = some (.slice e)) : (Op.equalIn (d + 1) t (.slice none a b) (.slice (some p) c g)).run P w = .ok false w := by
  unfold Op.equalIn
  simp only [Sem.run_bind, run_underlying hu, Result.andThen_ok]
  rfl
theorem eqI_ts (a b c g : Nat) (p : Addr) (hu : P.underlying t = some (.slice e)) : (Op.equalIn (d + 1) t (.slice (some p) a b) (.slice none c g)).run P w = .ok false w := by
  unfold Op.equalIn
  simp only [Sem.run_bind, run_underlying hu, Result.andThen_ok]
  rfl
theorem eqI_mm (k v : TypeId) (hu : P.underlying t = some (.map k v)) : (Op.equalIn (d + 1) t (.map none) (.map none)).run P w = .ok true w := by
  unfold Op.equalIn
  simp only [Sem.run_bind, run_underlying hu, Result.andThen_ok]
  rfl
theorem eqI_mn (k v : TypeId) (m : Nat) (hu : P.underlying t = some (.map k v)) : (Op.equalIn (d + 1) t (.map none) (.map (some m))).run P w = .ok false w := by
  unfold Op.equalIn
  simp only [Sem.run_bind, run_underlying hu, Result.andThen_ok]
  rfl
theorem eqI_nm (k v : TypeId) (m : Nat) (hu : P.underlying t = some (.map k v)) : (Op.equalIn (d + 1) t (.map (some m)) (.map none)).run P w = .ok false w := by
  unfold Op.equalIn
  simp only [Sem.run_bind, run_underlying hu, Result.andThen_ok]
  rfl
theorem eqI_ff (a b : Array TypeId) (c : Bool) (hu : P.underlying t = some (.func a b c)) : (Op.equalIn (d + 1) t .nilFunc .nilFunc).run P w = .ok true w := by
  unfold Op.equalIn
  simp only [Sem.run_bind, run_underlying hu, Result.andThen_ok]
  rfl
theorem eqI_fg (a b : Array TypeId) (c : Bool) (fn : Fn) (x y : Array Value) (hu : P.underlying t = some (.func a b c)) : (Op.equalIn (d + 1) t .nilFunc (.func fn x y)).run P w = .ok false w := by
  unfold Op.equalIn
  simp only [Sem.run_bind, run_underlying hu, Result.andThen_ok]
  rfl
theorem eqI_gf (a b : Array TypeId) (c : Bool) (fn : Fn) (x y : Array Value) (hu : P.underlying t = some (.func a b c)) : (Op.equalIn (d + 1) t (.func fn x y) .nilFunc).run P w = .ok false w := by
  unfold Op.equalIn
  simp only [Sem.run_bind, run_underlying hu, Result.andThen_ok]
  rfl
end steps

/-- Go's ==, told by the evaluator, is the model's. -/
theorem eqN_ok (r : HR w0 ng ρ h w) {rd : Pos → Option NB} (hrd : ∀ p b, rd p = some b → h.rd p = some b) :
    ∀ (f : Nat) (t : TypeId) (x y : NV) (x' y' : Value) (b : Bool) (d : Nat), f ≤ d → eqN P rd f t x y = some b → VR ρ x x' → VR ρ y y' → (Op.equalIn d t x' y').run P w = .ok b w := by
  intro f
  induction f with
  | zero => intro t x y x' y' b d _ h; simp only [eqN, reduceCtorEq] at h
  | succ f ih =>
    intro t x y x' y' b d hd h hx hy
    obtain ⟨d, rfl⟩ : ∃ k, d = k + 1 := ⟨d - 1, by omega⟩
    unfold eqN at h
    split at h
    case h_1 a c hk =>
      rw [hx.bool_inv, hy.bool_inv, eqI_bool _ _ (kd_bool hk)]
      cases h
      cases a <;> cases c <;> rfl
    case h_2 k0 k a j c hk =>
      rw [hx.int_inv, hy.int_inv]
      split at h
      · rename_i hkk
        obtain rfl := ikEq_iff.1 hkk
        rw [eqI_int _ _ _ _ (kd_int hk)]
        cases h
        rw [intBeq_eq]
      · cases h
    case h_3 n a m c hk =>
      obtain ⟨s, rfl, h1, h2⟩ := hx.str_inv
      obtain ⟨u, rfl, h3, h4⟩ := hy.str_inv
      subst h1; subst h2; subst h3; subst h4
      have := strEq_eq s u
      unfold strEq at this
      rw [eqI_str _ _ (kd_str hk)]
      cases h
      rw [this, ByteArray.toList_eq, ByteArray.toList_eq]
      congr 1
      show (s.data == u.data) = (s.data.toList == u.data.toList)
      by_cases e : s.data = u.data
      · rw [e]; simp
      · have k : s.data.toList ≠ u.data.toList := fun k => e (Array.ext' k)
        rw [beq_eq_false_iff_ne.2 e, beq_eq_false_iff_ne.2 k]
    case h_4 e hk => cases hx; cases hy; cases h; exact eqI_pp (kd_ptr hk)
    case h_5 e p o hk => cases hx; obtain ⟨β, C, rfl, _⟩ := hy.ptr_inv; cases h; exact eqI_pq _ (kd_ptr hk)
    case h_6 e p o hk => cases hy; obtain ⟨β, C, rfl, _⟩ := hx.ptr_inv; cases h; exact eqI_qp _ (kd_ptr hk)
    case h_7 e p a q c hk =>
      obtain ⟨β, C, rfl, hp⟩ := hx.ptr_inv
      obtain ⟨γ, D, rfl, hq⟩ := hy.ptr_inv
      split at h
      · cases h
      · rename_i hz
        cases hi : P.info? e with
        | none => simp [Program.cellsOf, hi] at hz
        | some i =>
          have hz' : i.size ≠ 0 := by
            intro e0
            simp [Program.cellsOf, hi, e0] at hz
          split at h
          · rename_i hpq
            obtain rfl := Pos.beq_iff.1 hpq
            rw [hp] at hq
            cases hq
            refine eqI_qq _ _ _ (kd_ptr hk) hi hz' ?_
            cases h
            have : ((⟨β, a, none⟩ : Addr) == ⟨β, c, none⟩) = a.beq c := by
              by_cases e : a = c
              · subst e; simp
              · have e1 : (⟨β, a, none⟩ : Addr) ≠ ⟨β, c, none⟩ := fun k => e (by injection k)
                have e2 : a.beq c = false := by
                  cases hb : a.beq c with
                  | false => rfl
                  | true => exact absurd (Nat.eq_of_beq_eq_true hb) e
                rw [beq_eq_false_iff_ne.2 e1, e2]
            simp [sameAddr, this]
          · rename_i hpq
            have hne := Pos.beq_false hpq
            split at h
            · rename_i l m e1 e2
              obtain ⟨β', C', o, k1, k2, k3, _⟩ := r.blk p _ (hrd _ _ e1)
              obtain ⟨γ', D', o', j1, j2, j3, _⟩ := r.blk q _ (hrd _ _ e2)
              rw [hp] at k1
              rw [hq] at j1
              cases k1
              cases j1
              have hβγ : β ≠ γ := fun e => hne (r.inj p q _ _ β C D (hrd _ _ e1) (hrd _ _ e2) rfl hp (by rw [hq, e]))
              cases h
              cases o <;> simp only [BR] at k3
              cases o' <;> simp only [BR] at j3
              exact eqI_qq _ _ _ (kd_ptr hk) hi hz' (sameAddr_other k2 j2 k3.2 j3.2 hβγ)
            · cases h
    case h_8 hk => obtain ⟨ms, hu⟩ := kd_iface hk; cases hx; cases hy; cases h; exact eqI_ii _ hu
    case h_9 u v hk => obtain ⟨ms, hu⟩ := kd_iface hk; cases hx; cases hy; cases h; exact eqI_ij _ _ _ hu
    case h_10 u v hk => obtain ⟨ms, hu⟩ := kd_iface hk; cases hx; cases hy; cases h; exact eqI_ji _ _ _ hu
    case h_11 e hk => cases hx; cases hy; cases h; exact eqI_ss _ _ _ _ (kd_slice hk).1
    case h_12 e p o n c hk => cases hx; obtain ⟨β, C, c', rfl, _⟩ := hy.slice_inv; cases h; exact eqI_st _ _ _ _ _ (kd_slice hk).1
    case h_13 e p o n c hk => cases hy; obtain ⟨β, C, c', rfl, _⟩ := hx.slice_inv; cases h; exact eqI_ts _ _ _ _ _ (kd_slice hk).1
    case h_14 e hk => cases hx; cases hy; cases h; exact eqI_ts _ _ _ _ _ (kd_slice hk).1
    case h_15 e hk => cases hx; cases hy; cases h; exact eqI_st _ _ _ _ _ (kd_slice hk).1
    case h_16 k v hk => cases hx; cases hy; cases h; exact eqI_mm _ _ (kd_map hk)
    case h_17 k v p hk => cases hx; cases hy; cases h; exact eqI_mn _ _ _ (kd_map hk)
    case h_18 k v p hk => cases hx; cases hy; cases h; exact eqI_nm _ _ _ (kd_map hk)
    case h_19 hk => obtain ⟨a, b', c, hu⟩ := kd_func hk; cases hx; cases hy; cases h; exact eqI_ff _ _ _ hu
    case h_20 fn x y hk => obtain ⟨a, b', c, hu⟩ := kd_func hk; cases hx; cases hy; cases h; exact eqI_fg _ _ _ _ _ _ hu
    case h_21 fn x y hk => obtain ⟨a, b', c, hu⟩ := kd_func hk; cases hx; cases hy; cases h; exact eqI_gf _ _ _ _ _ _ hu
    case h_22 fs xs ys hk =>
      obtain ⟨fs', hu, hall, rfl⟩ := kd_struct hk
      obtain ⟨cs, rfl, hcs⟩ := hx.agg_inv
      obtain ⟨ds, rfl, hds⟩ := hy.agg_inv
      split at h
      · cases h
      · rename_i hst
        have key := eqFields_ok (P := P) (w := w) hcs hds (eqM := Op.equalIn d) (eqA := eqN P rd f) (fun t x y x' y' b e1 e2 e3 => ih t x y x' y' b d (by omega) e1 e2 e3) fs'.toList b (allKnown_all hall) h
        unfold Op.equalIn
        simp only [Sem.run_bind, run_underlying hu, Result.andThen_ok, run_program, hst, Bool.false_eq_true, if_false]
        rw [← Array.forIn_toList, key]
        cases b <;> rfl
    case h_23 n e xs ys hk =>
      obtain ⟨hu, hkn⟩ := kd_array hk
      obtain ⟨de, ie, e1, e2, e3⟩ := knownT_some hkn
      obtain ⟨cs, rfl, hcs⟩ := hx.agg_inv
      obtain ⟨ds, rfl, hds⟩ := hy.agg_inv
      rw [e1, e3] at h
      have key := eqElems_ok (P := P) (w := w) e1 e2 hcs hds (eqM := Op.equalIn d e) (eqA := eqN P rd f e) (fun x y x' y' b h1 h2 h3 => ih e x y x' y' b d (by omega) h1 h2 h3) n 0 b (by simpa using h)
      unfold Op.equalIn
      simp only [Sem.run_bind, run_underlying hu, Result.andThen_ok, run_sizeOf_of e2]
      rw [Std.Legacy.Range.forIn_eq_forIn_range']
      simp only [Std.Legacy.Range.size, Nat.sub_zero, Nat.add_sub_cancel, Nat.div_one]
      rw [key]
      cases b <;> rfl
    case h_24 =>
      rename_i hk hne
      split at h
      · rename_i b0 hs
        cases h
        obtain ⟨k, n, m, rfl, rfl, _, u, e3, e4⟩ := symO_ok hx hy hs
        cases e3
        have := (e4 _ (.bool _)).bool_inv
        cases this
        rw [eqI_int _ _ _ _ (kd_int hk), intBeq_eq]
      · cases h
    case h_25 e k n l hk => cases hy; obtain ⟨β, off, c, l', rfl, _⟩ := hx.fsl_inv; cases h; exact eqI_ts _ _ _ _ _ (kd_slice hk).1
    case h_26 e k n l hk => cases hx; obtain ⟨β, off, c, l', rfl, _⟩ := hy.fsl_inv; cases h; exact eqI_st _ _ _ _ _ (kd_slice hk).1
    case h_27 => cases h
end
end Go.Ne
/- The evaluator's operations against the model's: 'readN'. -/
namespace Go.Ne
open Go Go.RowKit
variable [Sig]
section
variable {P : Program} {w0 : World} {ng : Nat} {ρ : Rho} {h : H} {w : World} {ev : Operand → NV} {ev' : Operand → Value}

/-- Neither a number nor a string. -/
def deepV : Value → Bool
  | .int .. => false
  | .float .. => false
  | .complex .. => false
  | .string _ => false
  | _ => true
theorem binOp_eql (t : TypeId) {x y : Value} (hx : deepV x = true) : binOp .eql t x y = (do pure (.bool (← Op.equal t x y)) : Sem Value) := by
  cases x <;> simp only [deepV, Bool.false_eq_true] at hx <;> cases y <;> rfl
theorem binOp_neq (t : TypeId) {x y : Value} (hx : deepV x = true) : binOp .neq t x y = (do pure (.bool (!(← Op.equal t x y))) : Sem Value) := by
  cases x <;> simp only [deepV, Bool.false_eq_true] at hx <;> cases y <;> rfl
theorem eqN_deep {rd : Pos → Option NB} {f : Nat} {t : TypeId} {x y : NV} {b : Bool} (h : eqN P rd f t x y = some b) (hk : eqK (kd P t) = .deep) {x' : Value} (hx : VR ρ x x') : deepV x' = true := by
  cases f with
  | zero => simp only [eqN, reduceCtorEq] at h
  | succ f =>
    unfold eqN at h
    split at h <;> first
      | (cases hx <;> rfl)
      | (cases h; done)
      | (rename_i k; rw [k] at hk; cases hk; done)
      | (rename_i k _; rw [k] at hk; cases hk; done)
theorem eqGuard_calm (op : BinOp) {t : TypeId} (x y : Operand) {a b : NV} (hc : eqCalm P t a b = true) {a' b' : Value} (ha : VR ρ a a') (hb : VR ρ b b') : (eqGuard op t x y a' b').run P w = .ok () w := by
  unfold eqGuard
  by_cases hop : op = .eql ∨ op = .neq
  · unfold eqCalm at hc
    split at hc
    · cases hc
    · obtain ⟨cs, rfl, _⟩ := ha.agg_inv
      obtain ⟨ds, rfl, _⟩ := hb.agg_inv
      rw [negB_eq] at hc
      have hg : P.eqGuardType P.depth t = false := by simpa using hc
      rcases hop with rfl | rfl <;> simp [hg]
    · cases hc
    · cases hc
    · cases hc
    · cases hc
    · rename_i h1 h2 h3 h4 h5 h6
      cases a' with
      | nilIface =>
        cases b' with
        | nilIface =>
          exfalso
          generalize hu : Value.nilIface = u at ha
          generalize hv : Value.nilIface = v at hb
          cases ha <;> first | (cases hu; done) | (cases hb <;> first | (cases hv; done) | first | exact (h1 rfl rfl).elim | exact (h1 _ _ rfl rfl).elim | exact (h1 rfl).elim | exact (h1 _ rfl).elim | exact (h2 rfl rfl).elim | exact (h2 _ _ rfl rfl).elim | exact (h2 rfl).elim | exact (h2 _ rfl).elim | exact (h3 rfl rfl).elim | exact (h3 _ _ rfl rfl).elim | exact (h3 rfl).elim | exact (h3 _ rfl).elim | exact (h4 rfl rfl).elim | exact (h4 _ _ rfl rfl).elim | exact (h4 rfl).elim | exact (h4 _ rfl).elim | exact (h5 rfl rfl).elim | exact (h5 _ _ rfl rfl).elim | exact (h5 rfl).elim | exact (h5 _ rfl).elim | exact (h6 rfl rfl).elim | exact (h6 _ _ rfl rfl).elim | exact (h6 rfl).elim | exact (h6 _ rfl).elim)
        | _ => rcases hop with rfl | rfl <;> rfl
      | agg cs =>
        cases b' with
        | agg ds =>
          exfalso
          generalize hu : Value.agg cs = u at ha
          generalize hv : Value.agg ds = v at hb
          cases ha <;> first | (cases hu; done) | (cases hb <;> first | (cases hv; done) | first | exact (h1 rfl rfl).elim | exact (h1 _ _ rfl rfl).elim | exact (h1 rfl).elim | exact (h1 _ rfl).elim | exact (h2 rfl rfl).elim | exact (h2 _ _ rfl rfl).elim | exact (h2 rfl).elim | exact (h2 _ rfl).elim | exact (h3 rfl rfl).elim | exact (h3 _ _ rfl rfl).elim | exact (h3 rfl).elim | exact (h3 _ rfl).elim | exact (h4 rfl rfl).elim | exact (h4 _ _ rfl rfl).elim | exact (h4 rfl).elim | exact (h4 _ rfl).elim | exact (h5 rfl rfl).elim | exact (h5 _ _ rfl rfl).elim | exact (h5 rfl).elim | exact (h5 _ rfl).elim | exact (h6 rfl rfl).elim | exact (h6 _ _ rfl rfl).elim | exact (h6 rfl).elim | exact (h6 _ rfl).elim)
        | _ => rcases hop with rfl | rfl <;> rfl
      | _ => rcases hop with rfl | rfl <;> rfl
  · cases op <;> first | rfl | (simp at hop; done)

theorem binE_ok (r : HR w0 ng ρ h w) (hE : EvR ρ ev ev') {op : BinOp} {t : TypeId} {x y : Operand} {v : NV} (hv : binE P h.rd op t (ev x) (ev y) = some v) (hk : eqK (kd P t) = .deep) :
    ∃ v', (do eqGuard op t x y (ev' x) (ev' y); binOp op t (ev' x) (ev' y) : Sem Value).run P w = .ok v' w ∧ VR ρ v v' := by
  have hx := hE x
  have hy := hE y
  unfold binE at hv
  split at hv
  · cases hv
  · rename_i hc
    have hg := eqGuard_calm (P := P) (w := w) op x y hc hx hy
    split at hv
    · split at hv
      · rename_i b hb
        cases hv
        have hd := eqN_deep hb hk hx
        have := eqN_ok r (rd := h.rd) (fun _ _ e => e) 20 t _ _ _ _ b Op.maxDepth (by unfold Op.maxDepth; omega) hb hx hy
        refine ⟨.bool b, ?_, .bool b⟩
        simp only [Sem.run_bind, hg, Result.andThen_ok, binOp_eql t hd, Op.equal, this, Sem.run_pure]
      · cases hv
    · split at hv
      · rename_i b hb
        cases hv
        have hd := eqN_deep hb hk hx
        have := eqN_ok r (rd := h.rd) (fun _ _ e => e) 20 t _ _ _ _ b Op.maxDepth (by unfold Op.maxDepth; omega) hb hx hy
        refine ⟨.bool (!b), ?_, by rw [negB_eq]; exact .bool _⟩
        simp only [Sem.run_bind, hg, Result.andThen_ok, binOp_neq t hd, Op.equal, this, Sem.run_pure]
      · cases hv
    · cases hv
end
end Go.Ne
/- The evaluator's operations against the model's: slices of slices. -/
namespace Go.Ne
open Go Go.RowKit
variable [Sig]
section
variable {P : Program} {w0 : World} {ng : Nat} {ρ : Rho} {h : H} {w : World} {ev : Operand → NV} {ev' : Operand → Value}

theorem BndR.le {x : Option Operand} {d lim m : Nat} (hb : BndR ev' x d lim m) (hd : d ≤ lim) : m ≤ lim := by
  rcases hb with ⟨_, rfl⟩ | ⟨_, _, _, _, e⟩ <;> omega
theorem zeroK_ok (hE : EvR ρ ev ev') {x : Option Operand} (hz : zeroK (mapO ev x) = true) (lim : Nat) : BndR ev' x 0 lim 0 := by
  cases x with
  | none => exact .inl ⟨rfl, rfl⟩
  | some o =>
    simp only [mapO] at hz
    unfold zeroK at hz
    split at hz
    · rename_i e; cases e
    · rename_i k e
      have hr := hE o
      have e : ev o = .int k (.ofNat 0) := by injection e
      rw [e] at hr
      exact .inr ⟨o, k, rfl, by rw [hr.int_inv]; rfl, Nat.zero_le _⟩
    · cases hz
theorem zeroS_ok (hE : EvR ρ ev ev') {o : Operand} (hz : zeroK (some (ev o)) = true) : ∃ k, ev' o = .int k (0 : Nat) := by
  rcases zeroK_ok (x := some o) hE hz 0 with ⟨k, _⟩ | ⟨o', k, q1, q2, _⟩
  · cases k
  · cases q1; exact ⟨k, q2⟩
theorem run_slice_of {t e : TypeId} {i : TypeInfo} (hu : P.underlying t = some (.slice e)) (hinf : P.info? e = some i) {a : Option Addr} {len cap l hh m : Nat} {lo hi mx : Option Value}
    (hb : (Instr.sliceBounds true len cap lo hi mx).run P w = .ok (l, hh, m) w) :
    (Instr.sliceAt t (.slice a len cap) lo hi mx).run P w = .ok (.slice (if m = l then a else a.map (·.add (l * i.size))) (hh - l) (m - l)) w := by
  simp only [Instr.sliceAt, Instr.slice, Sem.run_bind, run_underlying hu, Result.andThen_ok, hb, run_sizeOf_of hinf, Sem.run_pure]
theorem sizeB_ok {b : NB} {C s : Nat} {o : Obj} (hB : BR ρ b C o) (hs : sizeB b = some s) : s ≤ C := by
  cases b <;> simp only [sizeB, reduceCtorEq, Option.some.injEq] at hs <;> subst hs <;> cases o <;> simp only [BR] at hB <;> (try rw [lenL_eq])
  · exact hB.1.2.1
  · exact hB.1.2.1
  · exact hB.2.1
theorem sliceR_ok (r : HR w0 ng ρ h w) (hE : EvR ρ ev ev') {t : TypeId} {x : Operand} {lo hi mx : Option Operand} {v : NV} (hv : sliceR P h.rd ev t (ev x) lo hi mx = some v) :
    ∃ v', (Instr.sliceAt t (ev' x) (lo.map ev') (hi.map ev') (mx.map ev')).run P w = .ok v' w ∧ VR ρ v v' := by
  have hx := hE x
  unfold sliceR at hv
  simp only [Nat.sub_eq, Nat.add_eq, Nat.mul_eq] at hv
  split at hv
  · rename_i e hk
    obtain ⟨hu, hkn⟩ := kd_slice hk
    obtain ⟨de, ie, e1, e2, e3⟩ := knownT_some hkn
    split at hv
    · rename_i hxe
      rw [hxe] at hx
      split at hv
      · cases hv
      · rename_i hlo
        split at hv
        · cases hv
        · rename_i hhi
          split at hv
          · cases hv
            have hb := bounds_ok (P := P) (ev' := ev') true (len := 0) (cap := 0) (m := 0) (h := 0) (l := 0) (mx := none) (.inl ⟨rfl, rfl⟩) (fun k => absurd rfl k) (zeroK_ok hE hhi 0) (zeroK_ok hE hlo 0) w
            generalize ev' x = y at hx ⊢
            cases hx
            exact ⟨_, run_slice_of hu e2 hb, by simp; exact .nslice⟩
          · rename_i m0
            split at hv
            · cases hv
            · rename_i hmx
              split at hv
              · cases hv
              · cases hv
                have hb := bounds_ok (P := P) (ev' := ev') true (len := 0) (cap := 0) (m := 0) (h := 0) (l := 0) (zeroK_ok (x := some m0) hE hmx 0) (fun _ => by simp) (zeroK_ok hE hhi 0) (zeroK_ok hE hlo 0) w
                generalize ev' x = y at hx ⊢
                cases hx
                exact ⟨_, run_slice_of hu e2 hb, by simp; exact .nslice⟩
    · rename_i p off len cap hxe
      rw [hxe] at hx
      obtain ⟨β, C, c, hy, hρ, hlen, hcap⟩ := hx.slice_inv
      rw [hy]
      split at hv
      · rename_i m0
        split at hv
        · cases hv
        · rename_i known hkn2
          have hkc : known ≤ c := by
            cases cap with
            | known c' => simp only [Option.some.injEq] at hkn2; simp only at hcap; omega
            | room z =>
              simp only at hkn2 hcap
              split at hkn2
              · cases hkn2
              · rename_i hz
                have hz := Nat.eq_of_beq_eq_true hz
                split at hkn2
                · rename_i b hb
                  split at hkn2
                  · rename_i s hs
                    obtain ⟨β', C', o, k1, k2, k3, _⟩ := r.blk p b hb
                    rw [hρ] at k1
                    cases k1
                    have hsC := sizeB_ok k3 hs
                    cases z with
                    | zero => simp at hkn2
                    | succ z =>
                      simp only [Option.some.injEq] at hkn2
                      have hkn3 : (s - off) / (z + 1) = known := hkn2
                      have h3 : (s - off) / (z + 1) ≤ (c * (z + 1)) / (z + 1) := Nat.div_le_div_right (by omega)
                      rw [Nat.mul_div_cancel _ (by omega)] at h3
                      omega
                  · cases hkn2
                · cases hkn2
          split at hv
          · cases hv
          · rename_i m hm
            split at hv
            · cases hv
            · rename_i hh hhi
              split at hv
              · cases hv
              · rename_i l hlo
                split at hv
                · cases hv
                · rename_i hi0
                  have b0 := bnd_ok hE (x := some m0) (by simpa [mapO] using hm)
                  have b1 := bnd_ok hE hhi
                  have b2 := bnd_ok hE hlo
                  have hmk : m ≤ c := by
                    rcases b0 with ⟨k, _⟩ | ⟨_, _, _, _, k⟩
                    · cases k
                    · omega
                  have b0' : BndR ev' (some m0) c c m := by
                    rcases b0 with ⟨k, _⟩ | ⟨o, k, q1, q2, q3⟩
                    · cases k
                    · exact .inr ⟨o, k, q1, q2, hmk⟩
                  have hb := bounds_ok (P := P) true b0' (fun _ => by simp) b1 b2 w
                  have hhm : hh ≤ m := by
                    rcases b1 with ⟨k, _⟩ | ⟨_, _, _, _, k⟩
                    · cases k
                    · omega
                  have hlh := b2.le (Nat.zero_le _)
                  refine ⟨_, run_slice_of hu e2 hb, ?_⟩
                  split at hv
                  · rename_i hlm
                    have hlm := Nat.eq_of_beq_eq_true hlm
                    cases hv
                    subst hlm
                    rw [if_pos rfl]
                    have e9 : l - l = 0 := by omega
                    rw [e9]
                    exact .known _ _ _ _ β C hρ (by omega)
                  · rename_i hlm
                    have hlm : m ≠ l := fun e => by subst e; simp at hlm
                    cases hv
                    rw [if_neg hlm]
                    simp only [Option.map_some, addr_add]
                    rw [e3]
                    exact .known _ _ _ _ β C hρ (by omega)
      · split at hv
        · rename_i c'
          simp only at hcap
          subst hcap
          split at hv
          · cases hv
          · rename_i hh hhi
            split at hv
            · cases hv
            · rename_i l hlo
              have b1 := bnd_ok hE hhi
              have b2 := bnd_ok hE hlo
              have hb := bounds_ok (P := P) true (cap := c) (m := c) (mx := none) (.inl ⟨rfl, rfl⟩) (fun k => absurd rfl k) b1 b2 w
              have hhm := b1.le hlen
              have hlh := b2.le (Nat.zero_le _)
              refine ⟨_, run_slice_of hu e2 hb, ?_⟩
              split at hv
              · rename_i hlm
                have hlm := Nat.eq_of_beq_eq_true hlm
                cases hv
                subst hlm
                rw [if_pos rfl]
                have e9 : l - l = 0 := by omega
                rw [e9]
                exact .known _ _ _ _ β C hρ (by omega)
              · rename_i hlm
                have hlm : c ≠ l := fun e => by subst e; simp at hlm
                cases hv
                rw [if_neg hlm]
                simp only [Option.map_some, addr_add]
                rw [e3]
                exact .known _ _ _ _ β C hρ (by omega)
        · rename_i z
          simp only at hcap
          split at hv
          · cases hv
          · rename_i hh hhi
            split at hv
            · cases hv
            · rename_i l hlo
              have b1 := bnd_ok hE hhi
              have b2 := bnd_ok hE hlo
              have hhm := b1.le (Nat.le_refl _)
              have hlh := b2.le (Nat.zero_le _)
              have b1' : BndR ev' hi len c hh := by
                rcases b1 with ⟨q1, q2⟩ | ⟨o, k, q1, q2, q3⟩
                · exact .inl ⟨q1, q2⟩
                · exact .inr ⟨o, k, q1, q2, by omega⟩
              have hb := bounds_ok (P := P) true (cap := c) (m := c) (mx := none) (.inl ⟨rfl, rfl⟩) (fun k => absurd rfl k) b1' b2 w
              refine ⟨_, run_slice_of hu e2 hb, ?_⟩
              split at hv
              · cases hv
                have : (if c = 0 then some (⟨β, off, none⟩ : Addr) else (some (⟨β, off, none⟩ : Addr)).map (·.add (0 * ie.size))) = some ⟨β, off, none⟩ := by
                  split
                  · rfl
                  · simp [addr_add]
                rw [this]
                simp only [Nat.sub_zero]
                exact .room _ _ _ _ _ β C hρ (by omega) hcap
              · rename_i hl0
                split at hv
                · rename_i hlh2
                  have hlh2 := Nat.eq_of_beq_eq_true hlh2
                  cases hv
                  subst hlh2
                  have e9 : l - l = 0 := by omega
                  rw [e9]
                  split
                  · exact .slost _ _
                  · exact .slost _ _
                · rename_i hlh2
                  have hlh2 : l ≠ hh := fun e => by subst e; simp at hlh2
                  split at hv
                  · rename_i hz
                    have hz := Nat.eq_of_beq_eq_true hz
                    cases hv
                    rw [if_neg (by omega)]
                    simp only [Option.map_some, addr_add]
                    rw [← e3, ← hz]
                    refine .room _ _ _ _ _ β C hρ (by omega) ?_
                    have : c * z = l * z + (c - l) * z := by rw [← Nat.add_mul]; congr 1; omega
                    show off + l * z + (c - l) * z = C
                    omega
                  · cases hv
    · rename_i hxe
      rw [hxe] at hx
      split at hv
      · cases hv
      · rename_i hlo
        split at hv
        · cases hv
        · rename_i hhi
          split at hv
          · cases hv
            generalize ev' x = y at hx ⊢
            cases hx with
            | slost a c =>
              have hb := bounds_ok (P := P) (ev' := ev') true (len := 0) (cap := c) (m := c) (h := 0) (l := 0) (mx := none) (.inl ⟨rfl, rfl⟩) (fun k => absurd rfl k) (zeroK_ok hE hhi c) (zeroK_ok hE hlo 0) w
              refine ⟨_, run_slice_of hu e2 hb, ?_⟩
              simp only [Nat.sub_zero]
              split
              · exact .slost _ _
              · exact .slost _ _
          · cases hv
    · rename_i q n0 l0 hxe
      rw [hxe] at hx
      split at hv
      · cases hv
      · rename_i hlo
        split at hv
        · cases hv
        · rename_i hi0
          split at hv
          · cases hv
          · rename_i hhi
            split at hv
            · cases hv
            · rename_i m0
              split at hv
              · cases hv
              · rename_i hmx
                cases hv
                obtain ⟨β, off, c, l', e', q1, q2, q3⟩ := hx.fsl_inv
                obtain ⟨k1, j1⟩ := zeroS_ok hE hhi
                obtain ⟨k2, j2⟩ := zeroS_ok hE hmx
                rw [e']
                have hb := bounds_ok (P := P) (ev' := ev') true (len := n0) (cap := c) (m := 0) (h := 0) (l := 0) (mx := some m0) (hi := some hi0) (.inr ⟨m0, k2, rfl, j2, Nat.zero_le _⟩) (fun _ => by simp) (.inr ⟨hi0, k1, rfl, j1, Nat.zero_le _⟩) (zeroK_ok hE hlo 0) w
                exact ⟨_, run_slice_of hu e2 hb, by simp; exact .fsl _ _ _ _ _ _ _ q1 (Nat.le_refl _) (fun _ => rfl) q3⟩
    · cases hv
  · rename_i n e hk
    obtain ⟨hu, hkn⟩ := kd_array hk
    obtain ⟨de, ie, e1, e2, e3⟩ := knownT_some hkn
    split at hv
    · rename_i p off hxe
      rw [hxe] at hx
      obtain ⟨β, C, hy, hρ⟩ := hx.ptr_inv
      rw [hy]
      split at hv
      · cases hv
      · rename_i m hm
        split at hv
        · cases hv
        · rename_i hh hhi
          split at hv
          · cases hv
          · rename_i l hlo
            have b0 := bnd_ok hE hm
            have b1 := bnd_ok hE hhi
            have b2 := bnd_ok hE hlo
            split at hv
            · cases hv
            · rename_i hne
              have hmx : mx ≠ none → hi ≠ none := by
                intro a b
                subst b
                cases mx with
                | none => exact a rfl
                | some m => exact hne m rfl rfl
              have hb := bounds_ok (P := P) false b0 hmx b1 b2 w
              have hmn := b0.le (Nat.le_refl _)
              have hhm : hh ≤ m := by
                rcases b1 with ⟨q1, q2⟩ | ⟨_, _, _, _, k⟩
                · subst q1
                  cases mx with
                  | none =>
                    rcases b0 with ⟨_, k⟩ | ⟨_, _, k, _⟩
                    · omega
                    · cases k
                  | some m => exact (hne m rfl rfl).elim
                · exact k
              have hlh := b2.le (Nat.zero_le _)
              have hrun : (Instr.sliceAt t (.pointer (some ⟨β, off, none⟩)) (lo.map ev') (hi.map ev') (mx.map ev')).run P w = .ok (.slice (some (if m = l then ⟨β, off, none⟩ else (⟨β, off, none⟩ : Addr).add (l * ie.size))) (hh - l) (m - l)) w := by
                simp only [Instr.sliceAt, Sem.run_bind, run_underlying hu, Result.andThen_ok, Instr.sureAddr, Sem.run_pure, hb, run_sizeOf_of e2]
              refine ⟨_, hrun, ?_⟩
              split at hv
              · rename_i hlm
                have hlm := Nat.eq_of_beq_eq_true hlm
                cases hv
                subst hlm
                rw [if_pos rfl]
                have e9 : l - l = 0 := by omega
                rw [e9]
                exact .known _ _ _ _ β C hρ (by omega)
              · rename_i hlm
                have hlm : m ≠ l := fun e => by subst e; simp at hlm
                cases hv
                rw [if_neg hlm, addr_add, e3]
                exact .known _ _ _ _ β C hρ (by omega)
    · cases hv
  · cases hv
end
end Go.Ne
/- The evaluator's operations against the model's: bytes and cells behind slices and strings. -/
namespace Go.Ne
open Go Go.RowKit
variable [Sig]
section
variable {P : Program} {w0 : World} {ng : Nat} {ρ : Rho} {h : H} {w : World} {ev : Operand → NV} {ev' : Operand → Value}

/-- Bytes as the model's cells. -/
def byteCells (bs : List UInt8) : List Value := bs.map fun b => .int .u8 b.toNat
theorem leNat_ofBytes (n : Nat) (f : Nat → Nat) (hf : ∀ i, f i < 256) {v : Nat} (hv : v < 256 ^ n) (h : ∀ i, i < n → byteAt v i = f i) :
    v = leNat ((List.range n).map fun i => UInt8.ofNat (f i)) := by
  have hlt := leNat_lt ((List.range n).map fun i => UInt8.ofNat (f i))
  simp only [List.length_map, List.length_range] at hlt
  refine bytes_ext n hv hlt fun i hi => ?_
  rw [h i hi, byteAt_leNat _ _ (by simpa using hi)]
  simp
  rw [Nat.mod_eq_of_lt (hf i)]
theorem bytesOf_some : ∀ {l : List NV} {v : Nat}, bytesOf l = some v → ∃ bs : List UInt8, v = leNat bs ∧ bs.length = l.length ∧ l = bs.map fun b => NV.int .u8 b.toNat
  | [], v, h => by simp only [bytesOf, Option.some.injEq] at h; exact ⟨[], h.symm, rfl, rfl⟩
  | a :: l, v, h => by
    unfold bytesOf at h
    split at h
    · rename_i e; cases e
    · rename_i b l' e
      cases e
      split at h
      · rename_i hb
        have hb : b < 256 := by simpa using hb
        split at h
        · rename_i v' hv'
          obtain ⟨bs, h1, h2, h3⟩ := bytesOf_some hv'
          cases h
          have e : (UInt8.ofNat b).toNat = b := by simp; omega
          refine ⟨UInt8.ofNat b :: bs, ?_, by simp [h2], ?_⟩
          · simp only [leNat, e, h1]; rfl
          · simp only [List.map_cons, e, ← h3]; rfl
        · cases h
      · cases h
    · cases h
theorem byteCells_vrl (bs : List UInt8) : VRL ρ (bs.map fun b => NV.int .u8 b.toNat) (byteCells bs) := VRL.map _ _ (fun _ => .int _ _) bs
theorem vrl_bytes {bs : List UInt8} {l' : List Value} (h : VRL ρ (bs.map fun b => NV.int .u8 b.toNat) l') : l' = byteCells bs := by
  induction bs generalizing l' with
  | nil => cases h; rfl
  | cons b bs ih =>
    cases h with
    | cons _ v' _ l' hv hl => rw [ih hl, hv.int_inv]; rfl
theorem byteCells_get {n : Nat} {f : Nat → Nat} (hf : ∀ i, f i < 256) {j : Nat} {u : Value} (h : (byteCells ((List.range n).map fun i => UInt8.ofNat (f i)))[j]? = some u) : j < n ∧ u = .int .u8 (f j) := by
  simp only [byteCells, List.map_map, List.getElem?_map, Option.map_eq_some_iff] at h
  obtain ⟨i, hi, rfl⟩ := h
  obtain ⟨h1, h2⟩ := List.getElem?_eq_some_iff.1 hi
  simp at h1 h2
  subst h2
  refine ⟨h1, ?_⟩
  have := hf j
  simp
  omega
theorem byteCells_length (bs : List UInt8) : (byteCells bs).length = bs.length := by simp [byteCells]
theorem run_firstCells_none (esz : Nat) (x' : Value) (hx : (∃ a c, x' = .slice (some a) 0 c) ∨ x' = .slice none 0 0 ∨ (∃ β off len c, x' = .slice (some ⟨β, off, none⟩) len c)) :
    (Builtin.firstCells esz 0 x').run P w = .ok #[] w := by
  rcases hx with ⟨a, c, rfl⟩ | rfl | ⟨β, off, len, c, rfl⟩ <;> simp [Builtin.firstCells, loadCells, loadCellsFrom]
theorem bytesAt_ok (r : HR w0 ng ρ h w) {n v : Nat} {x : NV} {x' : Value} (hx : VR ρ x x') (hb : bytesAt h.rd n x = some v) :
    ∃ bs : List UInt8, bs.length = n ∧ v = leNat bs ∧ (Builtin.firstCells 1 n x').run P w = .ok (byteCells bs).toArray w ∧
      ∀ β off len c, x' = .slice (some ⟨β, off, none⟩) len c → ∀ (j : Nat) u, (byteCells bs)[j]? = some u → w.cell? ⟨β, off + j, none⟩ = some u := by
  unfold bytesAt at hb
  split at hb
  · rename_i p off len cap
    obtain ⟨β, C, c, rfl, hρ, _, _⟩ := hx.slice_inv
    split at hb
    · cases hb
    · split at hb
      · cases hb
        exact ⟨[], rfl, rfl, run_firstCells_none 1 _ (.inr (.inr ⟨_, _, _, _, rfl⟩)), fun _ _ _ _ _ j u hj => by simp [byteCells] at hj⟩
      · rename_i hn0
        split at hb
        · rename_i m val hrd
          split at hb
          · rename_i hle
            have hle : off + n ≤ m := Nat.le_of_ble_eq_true hle
            cases hb
            obtain ⟨β', C', o, k1, k2, k3, _⟩ := r.blk p _ hrd
            rw [hρ] at k1
            cases k1
            cases o <;> simp only [BR] at k3
            rename_i c0 e0 fr
            obtain ⟨q1, q2, q3, q4, q5⟩ := k3
            have hcell : ∀ (j : Nat) u, (byteCells ((List.range n).map fun i => UInt8.ofNat (byteAt val (off + i))))[j]? = some u → w.cell? ⟨β, off + j, none⟩ = some u := fun j u hj => by
              obtain ⟨h1, rfl⟩ := byteCells_get (f := fun i => byteAt val (off + i)) (fun i => byteAt_lt _ _) hj
              simp [World.cell?, k2, q5 (off + j) (by omega)]
            refine ⟨(List.range n).map fun i => UInt8.ofNat (byteAt val (off + i)), by simp, ?_, ?_, fun _ _ _ _ e => by cases e; exact hcell⟩
            · exact leNat_ofBytes n (fun i => byteAt val (off + i)) (fun i => byteAt_lt _ _) (cutB_lt _ _ _) fun i hi => byteAt_cutB _ _ _ _ hi
            · have := run_loadCells_of (P := P) (w := w) (a := ⟨β, off, none⟩) (β := β) (off := off) (l' := byteCells ((List.range n).map fun i => UInt8.ofNat (byteAt val (off + i)))) rfl hcell
              rw [byteCells_length] at this
              simp only [List.length_map, List.length_range] at this
              simp only [Builtin.firstCells, Nat.mul_one]
              exact this
          · cases hb
        · rename_i l hrd
          split at hb
          · rename_i l1 ht
            obtain ⟨bs, h1, h2, h3⟩ := bytesOf_some hb
            obtain ⟨β', C', o, k1, k2, k3, _⟩ := r.blk p _ hrd
            rw [hρ] at k1
            cases k1
            obtain ⟨l', j1, j2, j3⟩ := cellsOf_ok (w := w) k3 (off := off) (n := n) (l := l1) (by simp only [cellsOf]; exact ht) k2
            rw [h3] at j2
            have := vrl_bytes j2
            subst this
            rw [byteCells_length] at j1
            refine ⟨bs, j1, h1, ?_, fun _ _ _ _ e => by cases e; exact j3⟩
            have := run_loadCells_of (P := P) rfl j3
            rw [byteCells_length, j1] at this
            simp only [Builtin.firstCells, Nat.mul_one]
            exact this
          · cases hb
        · cases hb
  · split at hb
    · cases hb
      cases hx
      exact ⟨[], rfl, rfl, run_firstCells_none 1 _ (.inr (.inl rfl)), fun _ _ _ _ _ j u hj => by simp [byteCells] at hj⟩
    · cases hb
  · split at hb
    · cases hb
      cases hx
      exact ⟨[], rfl, rfl, run_firstCells_none 1 _ (.inl ⟨_, _, rfl⟩), fun _ _ _ _ _ j u hj => by simp [byteCells] at hj⟩
    · cases hb
  · rename_i m val
    obtain ⟨s, rfl, h1, h2⟩ := hx.str_inv
    split at hb
    · rename_i hle
      have hle : n ≤ m := Nat.le_of_ble_eq_true hle
      cases hb
      subst h1; subst h2
      have hl : s.data.toList.length = s.size := by simp
      refine ⟨s.data.toList.take n, by rw [List.length_take]; omega, ?_, ?_, fun _ _ _ _ e => by cases e⟩
      · rw [cutB_leNat _ _ _ (by omega)]; rfl
      · simp only [Builtin.firstCells, Sem.run_pure]
        congr 1
        apply Array.ext'
        rw [Array.toList_map, extract_toList]
        simp [byteCells]
    · cases hb
  · cases hb

theorem cellsAt_ok (r : HR w0 ng ρ h w) {esz n : Nat} {l : List NV} {x : NV} {x' : Value} (hx : VR ρ x x') (hb : cellsAt h.rd esz n x = some l) :
    ∃ l' : List Value, l'.length = n * esz ∧ VRL ρ l l' ∧ (Builtin.firstCells esz n x').run P w = .ok l'.toArray w ∧
      ∀ β off len c, x' = .slice (some ⟨β, off, none⟩) len c → ∀ (j : Nat) u, l'[j]? = some u → w.cell? ⟨β, off + j, none⟩ = some u := by
  unfold cellsAt at hb
  split at hb
  · rename_i p off len cap
    obtain ⟨β, C, c, rfl, hρ, _, _⟩ := hx.slice_inv
    split at hb
    · cases hb
    · split at hb
      · cases hb
        exact ⟨[], by simp, .nil, run_firstCells_none esz _ (.inr (.inr ⟨_, _, _, _, rfl⟩)), fun _ _ _ _ _ j u hj => by simp at hj⟩
      · split at hb
        · rename_i b hrd
          obtain ⟨β', C', o, k1, k2, k3, _⟩ := r.blk p _ hrd
          rw [hρ] at k1
          cases k1
          obtain ⟨l', j1, j2, j3⟩ := cellsOf_ok (w := w) k3 hb k2
          have j1 : l'.length = n * esz := j1
          refine ⟨l', j1, j2, ?_, fun _ _ _ _ e => by cases e; exact j3⟩
          have := run_loadCells_of (P := P) rfl j3
          rw [j1] at this
          simp only [Builtin.firstCells]
          exact this
        · cases hb
  · split at hb
    · cases hb
      cases hx
      exact ⟨[], by simp, .nil, run_firstCells_none esz _ (.inr (.inl rfl)), fun _ _ _ _ _ j u hj => by simp at hj⟩
    · cases hb
  · split at hb
    · cases hb
      cases hx
      exact ⟨[], by simp, .nil, run_firstCells_none esz _ (.inl ⟨_, _, rfl⟩), fun _ _ _ _ _ j u hj => by simp at hj⟩
    · cases hb
  · split at hb
    · cases hb
    · obtain ⟨β, off, c, l0, rfl, hk, _, hl⟩ := hx.fsl_inv
      obtain ⟨l', j1, j2, j3⟩ := fz_cells (o := 0) r.frz_now hk hl (by simpa [dropN] using hb)
      have j1 : l'.length = n * esz := j1
      refine ⟨l', j1, j2, ?_, fun _ _ _ _ e => by cases e; exact j3⟩
      have := run_loadCells_of (P := P) (a := ⟨β, off, none⟩) (β := β) (off := off) rfl j3
      rw [j1] at this
      cases n with
      | zero =>
        have : l' = [] := by apply List.eq_nil_of_length_eq_zero; rw [j1]; simp
        subst this
        exact run_firstCells_none esz _ (.inr (.inr ⟨_, _, _, _, rfl⟩))
      | succ n =>
        simp only [Builtin.firstCells]
        exact this
  · cases hb

theorem foldl_push : ∀ (bs : List UInt8) (s : ByteArray), ((bs.map fun b => (b.toNat : Int)).foldl (fun r n => r.push (UInt8.ofNat n.toNat)) s).data.toList = s.data.toList ++ bs
  | [], s => by simp
  | b :: bs, s => by
    simp only [List.map_cons, List.foldl_cons]
    rw [foldl_push bs]
    simp [ByteArray.push]
theorem lenV_ok {n : Nat} {x : NV} {x' : Value} (hx : VR ρ x x') (h : lenV x = some n) : (Builtin.lenOf x').run P w = .ok n w ∧ (x' = .slice none 0 0 ∨ (∃ a c, x' = .slice (some a) n c) ∨ ∃ s : ByteArray, x' = .string s ∧ s.size = n) := by
  cases hx <;> simp only [lenV, reduceCtorEq, Option.some.injEq] at h <;> subst h <;> simp [Builtin.lenOf]
theorem convertB_ok (r : HR w0 ng ρ h w) (hE : EvR ρ ev ev') {s d : TypeId} {x : Operand} {v : NV} (hv : readN P h.rd ev (.convert s d x) = some v) :
    ∃ v', (convert s d (ev' x)).run P w = .ok v' w ∧ VR ρ v v' := by
  have hx := hE x
  simp only [readN] at hv
  split at hv
  · rename_i hkd
    have hd := kd_str hkd
    split at hv
    · rename_i e hks
      obtain ⟨hs, hkn⟩ := kd_slice hks
      split at hv
      · rename_i hke
        have he := kd_int hke
        split at hv
        · cases hv
        · rename_i y hns
          split at hv
          · rename_i n hn
            split at hv
            · rename_i a ha
              cases hv
              obtain ⟨hl, hform⟩ := lenV_ok (P := P) (w := w) hx hn
              obtain ⟨bs, h1, h2, h3, _⟩ := bytesAt_ok (P := P) r hx ha
              generalize ev' x = x' at *
              rcases hform with rfl | ⟨a, c, rfl⟩ | ⟨s, rfl, _⟩
              · refine ⟨.string .empty, by rw [run_convert_bytes_string w s d e none 0 0 hs he hd]; simp [Conv.bytesToString], ?_⟩
                have : n = 0 := by
                  have : (Builtin.lenOf (.slice none 0 0)).run P w = .ok 0 w := rfl
                  rw [this] at hl
                  injection hl with hl
                  exact hl.symm
                subst this
                obtain rfl : bs = [] := List.length_eq_zero_iff.1 h1
                rw [mkStr_eq, h2]
                exact .str .empty
              · refine ⟨.string ((bs.map fun b => (b.toNat : Int)).foldl (fun r n => r.push (UInt8.ofNat n.toNat)) ByteArray.empty), ?_, ?_⟩
                · rw [run_convert_bytes_string w s d e _ _ _ hs he hd]
                  refine run_bytesToString w a n c _ ?_
                  simp only [Builtin.firstCells, Nat.mul_one] at h3
                  rw [h3]
                  simp [byteCells]
                · rw [mkStr_eq]
                  have hd2 := foldl_push bs ByteArray.empty
                  have hd3 : ByteArray.empty.data.toList = [] := rfl
                  rw [hd3, List.nil_append] at hd2
                  refine VR.str' ?_ (by rw [h2, hd2])
                  have hl := congrArg List.length hd2
                  rw [h1] at hl
                  rw [← hl]
                  simp
              · exfalso
                generalize hu : Value.string s = u at hx
                generalize ev x = z at hx hn hns
                cases hx <;> first | (simp [lenV] at hn; done) | (cases hu; done) | (cases hu; exact hns _ _ rfl)
            · cases hv
          · cases hv
      · cases hv
    · cases hv
  · cases hv
end
end Go.Ne
/- The evaluator's operations against the model's: maps; 'readN', all of it. -/
namespace Go.Ne
open Go Go.RowKit
variable [Sig]
section
variable {P : Program} {w0 : World} {ng : Nat} {ρ : Rho} {h : H} {w : World} {ev : Operand → NV} {ev' : Operand → Value}

theorem plainFs_all : ∀ {l : List FI}, plainFs P l = true → ∀ f ∈ l, f.skip = false ∧ ((∃ k, kd P f.t = .int k) ∨ kd P f.t = .str ∨ kd P f.t = .bool) := by
  intro l
  induction l with
  | nil => intro _ f hf; simp at hf
  | cons a l ih =>
    intro h f hf
    simp only [plainFs] at h
    split at h
    · cases h
    · rename_i hsk
      rcases List.mem_cons.1 hf with rfl | hf
      · refine ⟨hsk, ?_⟩
        split at h
        · exact .inl ⟨_, by assumption⟩
        · exact .inr (.inl (by assumption))
        · exact .inr (.inr (by assumption))
        · cases h
      · split at h
        · exact ih h f hf
        · exact ih h f hf
        · exact ih h f hf
        · cases h
theorem checkKey_plain (b : Bool) (n : Nat) {t : TypeId} (hk : (∃ k, kd P t = .int k) ∨ kd P t = .str ∨ kd P t = .bool) (v : Value) : (Instr.checkKey b (n + 1) t v).run P w = .ok () w := by
  rcases hk with ⟨k, hk⟩ | hk | hk
  · have hu := kd_int hk
    cases v <;> simp [Instr.checkKey, run_underlying hu]
  · have hu := kd_str hk
    cases v <;> simp [Instr.checkKey, run_underlying hu]
  · have hu := kd_bool hk
    cases v <;> simp [Instr.checkKey, run_underlying hu]
theorem checkKey_fields (b : Bool) (n : Nat) {cs : Array Value} {xs : List NV} (hx : VRL ρ xs cs.toList) : ∀ (l : List Field), (∀ f ∈ l, knownT P f.type = true) → plainFs P (l.map (fiOf P)) = true → partsIn xs (l.map (fiOf P)) = true →
    (forIn l PUnit.unit (fun f (_ : PUnit) => (if f.name ≠ "_" then do
          let v ← Go.part f.type cs f.offset
          Instr.checkKey b (n + 1) f.type v
          pure (ForInStep.yield PUnit.unit)
        else pure (ForInStep.yield PUnit.unit) : Sem (ForInStep PUnit)))).run P w = .ok PUnit.unit w := by
  intro l
  induction l with
  | nil => intro _ _ _; simp
  | cons f l ih =>
    intro hk hp hin
    obtain ⟨df, if', k1, k2, k3⟩ := knownT_some (hk f (by simp))
    have hpl := plainFs_all hp (fiOf P f) (by simp)
    have hn : f.name ≠ "_" := by
      intro e
      have := hpl.1
      simp [fiOf, e] at this
    simp only [List.map_cons, partsIn] at hin
    split at hin
    · rename_i v hv
      simp only [fiOf, k1, k3] at hv
      obtain ⟨v', e1, _⟩ := part_ok k1 k2 hx hv w
      rw [List.forIn_cons]
      have hpl2 : (∃ k, kd P f.type = .int k) ∨ kd P f.type = .str ∨ kd P f.type = .bool := hpl.2
      simp only [ne_eq, hn, not_false_eq_true, if_true, Sem.run_bind, e1, Result.andThen_ok, checkKey_plain b n hpl2, Sem.run_pure]
      refine ih (fun g hg => hk g (by simp [hg])) ?_ hin
      simp only [List.map_cons, plainFs, hpl.1] at hp
      split at hp
      · exact hp
      · exact hp
      · exact hp
      · cases hp
    · cases hin
theorem checkKey_struct (b : Bool) (n : Nat) {t : TypeId} {fs : List FI} (hk : kd P t = .struct fs) (hp : plainFs P fs = true) {xs : List NV} {cs : Array Value} (hx : VRL ρ xs cs.toList) (hin : partsIn xs fs = true) :
    (Instr.checkKey b (n + 2) t (.agg cs)).run P w = .ok () w := by
  obtain ⟨fs', hu, hall, rfl⟩ := kd_struct hk
  have := checkKey_fields (P := P) (w := w) b n hx fs'.toList (allKnown_all hall) hp hin
  unfold Instr.checkKey
  simp only [Sem.run_bind, run_underlying hu, Result.andThen_ok]
  rw [← Array.forIn_toList, this]
  rfl

/-- A key that may be asked for. -/
theorem checkKey_ok {kt : TypeId} {a b : NV} {x : Bool} (hs : sameKey P kt a b = some x) {a' : Value} (ha : VR ρ a a') (e : Bool) : (Instr.checkKey e 10000 kt a').run P w = .ok () w := by
  unfold sameKey at hs
  split at hs
  · exact checkKey_plain e 9999 (.inl ⟨_, by assumption⟩) _
  · exact checkKey_plain e 9999 (.inr (.inl (by assumption))) _
  · exact checkKey_plain e 9999 (.inr (.inr (by assumption))) _
  · rename_i fs hk
    split at hs
    · cases hs
    · rename_i hp
      split at hs
      · rename_i xs
        obtain ⟨cs, rfl, hcs⟩ := ha.agg_inv
        split at hs
        · cases hs
        · rename_i hin
          exact checkKey_struct e 9998 hk hp hcs hin
      · cases hs
  · cases hs
theorem sameKey_plain {kt : TypeId} (hk : (∃ k, kd P kt = .int k) ∨ kd P kt = .str ∨ kd P kt = .bool) {a b : NV} {x : Bool} (hs : sameKey P kt a b = some x) {a' b' : Value} (ha : VR ρ a a') (hb : VR ρ b b') :
    ∃ d, P.underlying kt = some d ∧ Instr.sameNow d a' b' = some x := by
  unfold sameKey at hs
  rcases hk with ⟨k, hk⟩ | hk | hk <;> rw [hk] at hs <;> simp only at hs
  · refine ⟨_, kd_int hk, ?_⟩
    split at hs
    · split at hs
      · rename_i hkk
        obtain rfl := ikEq_iff.1 hkk
        rw [ha.int_inv, hb.int_inv]
        simp only [Instr.sameNow, if_true]
        rw [intBeq_eq] at hs
        exact hs
      · cases hs
    · cases hs
  · refine ⟨_, kd_str hk, ?_⟩
    split at hs
    · obtain ⟨s, rfl, h1, h2⟩ := ha.str_inv
      obtain ⟨u, rfl, h3, h4⟩ := hb.str_inv
      subst h1; subst h2; subst h3; subst h4
      rw [strEq_eq, ByteArray.toList_eq, ByteArray.toList_eq] at hs
      simp only [Instr.sameNow]
      rw [← hs]
      congr 1
      show (s.data == u.data) = (s.data.toList == u.data.toList)
      by_cases e : s.data = u.data
      · rw [e]; simp
      · have k : s.data.toList ≠ u.data.toList := fun k => e (Array.ext' k)
        rw [beq_eq_false_iff_ne.2 e, beq_eq_false_iff_ne.2 k]
    · cases hs
  · refine ⟨_, kd_bool hk, ?_⟩
    split at hs
    · rename_i x y
      rw [ha.bool_inv, hb.bool_inv]
      simp only [Instr.sameNow]
      rw [← hs]
      cases x <;> cases y <;> rfl
    · cases hs
theorem sameKey_struct (r : HR w0 ng ρ h w) {kt : TypeId} {fs : List FI} (hk : kd P kt = .struct fs) {a b : NV} {x : Bool} (hs : sameKey P kt a b = some x) {a' b' : Value} (ha : VR ρ a a') (hb : VR ρ b b') :
    (Op.equal kt a' b').run P w = .ok x w := by
  have key : ∀ {y : Bool}, eqN P (fun _ => none) 3 kt a b = some y → (Op.equal kt a' b').run P w = .ok y w := fun hy =>
    eqN_ok r (rd := fun _ => none) (fun _ _ e => by cases e) 3 kt a b a' b' _ Op.maxDepth (by unfold Op.maxDepth; omega) hy ha hb
  unfold sameKey at hs
  rw [hk] at hs
  simp only at hs
  split at hs
  · cases hs
  · split at hs
    · split at hs
      · cases hs
      · split at hs
        · rename_i he
          split at hs
          · cases hs; exact key he
          · cases hs
        · exact key hs
    · cases hs
/-- How what was found stands. -/
def FoundR (ρ : Rho) : Option (Nat × NV) → Option (Nat × Value) → Prop
  | none, none => True
  | some (i, v), some (j, v') => i = j ∧ VR ρ v v'
  | _, _ => False
theorem findNow_ok {kt : TypeId} (hk : (∃ k, kd P kt = .int k) ∨ kd P kt = .str ∨ kd P kt = .bool) {k : NV} {k' : Value} (hkr : VR ρ k k') {d : TypeDesc} (hd : P.underlying kt = some d) :
    ∀ {es : List (NV × NV × Nat)} {es' : List MapEntry} (i : Nat) {f : Option (Nat × NV)}, ER ρ es es' → findK P kt k es i = some f → ∃ f', Instr.findNow d k' es' i = some f' ∧ FoundR ρ f f'
  | _, _, i, f, .nil, hf => by
    simp only [findK, Option.some.injEq] at hf
    subst hf
    exact ⟨none, rfl, trivial⟩
  | _, _, i, f, .cons ke v ke' v' b l l' hke hv hl, hf => by
    simp only [findK] at hf
    split at hf
    · rename_i hs
      obtain ⟨d', hd', e⟩ := sameKey_plain hk hs hkr hke
      rw [hd] at hd'
      cases hd'
      cases hf
      exact ⟨some (i, v'), by simp [Instr.findNow, e], rfl, hv⟩
    · rename_i hs
      obtain ⟨d', hd', e⟩ := sameKey_plain hk hs hkr hke
      rw [hd] at hd'
      cases hd'
      obtain ⟨f', e1, e2⟩ := findNow_ok hk hkr hd (i + 1) hl hf
      exact ⟨f', by simp [Instr.findNow, e, e1], e2⟩
    · cases hf
theorem findAsking_ok (r : HR w0 ng ρ h w) {kt : TypeId} {fs : List FI} (hk : kd P kt = .struct fs) {k : NV} {k' : Value} (hkr : VR ρ k k') :
    ∀ {es : List (NV × NV × Nat)} {es' : List MapEntry} (i : Nat) {f : Option (Nat × NV)}, ER ρ es es' → findK P kt k es i = some f → ∃ f', (Instr.findAsking kt k' es' i).run P w = .ok f' w ∧ FoundR ρ f f'
  | _, _, i, f, .nil, hf => by
    simp only [findK, Option.some.injEq] at hf
    subst hf
    exact ⟨none, rfl, trivial⟩
  | _, _, i, f, .cons ke v ke' v' b l l' hke hv hl, hf => by
    simp only [findK] at hf
    split at hf
    · rename_i hs
      have e := sameKey_struct r hk hs hkr hke
      cases hf
      exact ⟨some (i, v'), by simp [Instr.findAsking, e], rfl, hv⟩
    · rename_i hs
      have e := sameKey_struct r hk hs hkr hke
      obtain ⟨f', e1, e2⟩ := findAsking_ok r hk hkr (i + 1) hl hf
      exact ⟨f', by simp [Instr.findAsking, e, e1], e2⟩
    · cases hf
theorem sameKey_kind {kt : TypeId} {a b : NV} {x : Bool} (hs : sameKey P kt a b = some x) : ((∃ k, kd P kt = .int k) ∨ kd P kt = .str ∨ kd P kt = .bool) ∨ ∃ fs, kd P kt = .struct fs := by
  unfold sameKey at hs
  split at hs
  · exact .inl (.inl ⟨_, by assumption⟩)
  · exact .inl (.inr (.inl (by assumption)))
  · exact .inl (.inr (.inr (by assumption)))
  · exact .inr ⟨_, by assumption⟩
  · cases hs
theorem findKey_ok (r : HR w0 ng ρ h w) {kt : TypeId} {k : NV} {k' : Value} (hkr : VR ρ k k') (hkind : ((∃ k, kd P kt = .int k) ∨ kd P kt = .str ∨ kd P kt = .bool) ∨ ∃ fs, kd P kt = .struct fs)
    {es : List (NV × NV × Nat)} {es' : List MapEntry} {f : Option (Nat × NV)} (he : ER ρ es es') (hf : findK P kt k es 0 = some f) :
    ∃ f', (Instr.findKey kt k' es').run P w = .ok f' w ∧ FoundR ρ f f' := by
  rcases hkind with hk | ⟨fs, hk⟩
  · obtain ⟨d, hd⟩ : ∃ d, P.underlying kt = some d := by
      rcases hk with ⟨k, hk⟩ | hk | hk
      · exact ⟨_, kd_int hk⟩
      · exact ⟨_, kd_str hk⟩
      · exact ⟨_, kd_bool hk⟩
    obtain ⟨f', e, q⟩ := findNow_ok hk hkr hd 0 he hf
    exact ⟨f', by simp [Instr.findKey, run_underlying hd, e], q⟩
  · obtain ⟨fs', hu, _, _⟩ := kd_struct hk
    cases he with
    | nil =>
      simp only [findK, Option.some.injEq] at hf
      subst hf
      exact ⟨none, by simp [Instr.findKey, run_underlying hu, Instr.findNow], trivial⟩
    | cons ke v ke' v' b l l' hke hv hl =>
      obtain ⟨f', e, q⟩ := findAsking_ok r hk hkr 0 (.cons ke v ke' v' b l l' hke hv hl) hf
      refine ⟨f', ?_, q⟩
      have hn : Instr.findNow (.struct fs') k' ({ key := ke', val := v', born := b } :: l') 0 = none := by simp [Instr.findNow, Instr.sameNow]
      simp [Instr.findKey, run_underlying hu, hn, e]
end
end Go.Ne
/- The evaluator's operations against the model's: 'readN', all of it. -/
namespace Go.Ne
open Go Go.RowKit
variable [Sig]
section
variable {P : Program} {w0 : World} {ng : Nat} {ρ : Rho} {h : H} {w : World} {ev : Operand → NV} {ev' : Operand → Value}

theorem run_getObj_of {r : Nat} {es : Array MapEntry} {clock : Nat} (hw : w.heap[r]? = some (.map es clock)) : (getObj r).run P w = .ok (.map es clock) w := by
  simp [getObj, Sem.run, hw]
theorem map_blk (r : HR w0 ng ρ h w) {p : Pos} {es : List (NV × NV × Nat)} {clock : Nat} (hb : h.rd p = some (.map es clock)) {β C : Nat} (hρ : ρ p = some (β, C)) :
    ∃ es' : Array MapEntry, w.heap[β]? = some (.map es' clock) ∧ ER ρ es es'.toList := by
  obtain ⟨β', C', o, k1, k2, k3, _⟩ := r.blk p _ hb
  rw [hρ] at k1
  cases k1
  cases o <;> simp only [BR] at k3
  obtain ⟨rfl, he⟩ := k3
  exact ⟨_, k2, he⟩
theorem VR.map_inv {p : Pos} {v' : Value} (hx : VR ρ (.map p) v') : ∃ β C, v' = .map (some β) ∧ ρ p = some (β, C) := by
  cases hx with | map _ β C hh => exact ⟨β, C, rfl, hh⟩
theorem findK_found {kt : TypeId} {k : NV} {q : Nat × NV} : ∀ {es : List (NV × NV × Nat)} {i : Nat}, findK P kt k es i = some (some q) → ∃ a, sameKey P kt k a = some true
  | [], i, h => by simp only [findK, reduceCtorEq, Option.some.injEq] at h
  | (k', v, b) :: es, i, h => by
    simp only [findK] at h
    split at h
    · exact ⟨_, by assumption⟩
    · exact findK_found h
    · cases h
theorem lookup_run {t kt et : TypeId} {x' k' z : Value} {es' : Array MapEntry} {ok : Bool} {f' : Option (Nat × Value)} (hu : P.underlying t = some (.map kt et))
    (hx : (x' = .map none ∧ es' = #[]) ∨ ∃ r clock, x' = .map (some r) ∧ w.heap[r]? = some (.map es' clock))
    (hck : (Instr.checkKey es'.isEmpty 10000 kt k').run P w = .ok () w) (hf : (Instr.findKey kt k' es'.toList).run P w = .ok f' w) (hz : (zeroValue et).run P w = .ok z w) :
    (Instr.lookup t x' k' ok).run P w = .ok (match f' with
      | some (_, v) => if ok then .tuple #[v, .bool true] else v
      | none => if ok then .tuple #[z, .bool false] else z) w := by
  rcases hx with ⟨rfl, rfl⟩ | ⟨r, clock, rfl, hw⟩
  · unfold Instr.lookup
    simp only [Sem.run_bind, run_underlying hu, Result.andThen_ok, Sem.run_pure, hck, hf]
    cases f' with
    | none => simp only [Sem.run_bind, hz, Result.andThen_ok, Sem.run_pure]
    | some q => obtain ⟨a, b⟩ := q; simp only [Sem.run_bind, Result.andThen_ok, Sem.run_pure]
  · unfold Instr.lookup
    simp only [Sem.run_bind, run_underlying hu, Result.andThen_ok, Sem.run_pure, run_getObj_of hw, hck, hf]
    cases f' with
    | none => simp only [Sem.run_bind, hz, Result.andThen_ok, Sem.run_pure]
    | some q => obtain ⟨a, b⟩ := q; simp only [Sem.run_bind, Result.andThen_ok, Sem.run_pure]
theorem lookup_ok (r : HR w0 ng ρ h w) (hE : EvR ρ ev ev') {t : TypeId} {m k : Operand} {ok : Bool} {v : NV} (hv : readN P h.rd ev (.lookup t m k ok) = some v) :
    ∃ v', (Instr.lookup t (ev' m) (ev' k) ok).run P w = .ok v' w ∧ VR ρ v v' := by
  have hm := hE m
  have hk := hE k
  simp only [readN] at hv
  split at hv
  · rename_i kt et hkd
    have hu := kd_map hkd
    split at hv
    · cases hv
    · rename_i ei hti
      obtain ⟨i, z, d, hi, hz, hd, h1, h2, h3, h4, h5⟩ := ty_some hti
      have hzr : VR ρ ei.zero z := by rw [h5]; exact ofValue_ok ρ 10 z
      split at hv
      · cases hv
      · rename_i es hes
        -- the entries
        have hent : ∃ es' : Array MapEntry, ER ρ es es'.toList ∧ ((ev' m = .map none ∧ es' = #[]) ∨ ∃ r clock, ev' m = .map (some r) ∧ w.heap[r]? = some (.map es' clock)) := by
          split at hes
          · rename_i hmn
            rw [hmn] at hm
            cases hes
            generalize ev' m = y at hm ⊢
            cases hm
            exact ⟨#[], .nil, .inl ⟨rfl, rfl⟩⟩
          · rename_i p hmn
            rw [hmn] at hm
            obtain ⟨β, C, hy, hρ⟩ := hm.map_inv
            split at hes
            · rename_i es0 clock hb
              cases hes
              obtain ⟨es', e1, e2⟩ := map_blk r hb hρ
              exact ⟨es', e2, .inr ⟨β, clock, hy, e1⟩⟩
            · cases hes
          · cases hes
        obtain ⟨es', her, hx⟩ := hent
        have fin : ∀ {x : NV} {x' : Value} {b : Bool}, VR ρ x x' → VR ρ (if ok then .tuple [x, .bool b] else x) (if ok then .tuple #[x', .bool b] else x') := by
          intro x x' b hx
          cases ok with
          | true => exact VR.tuple' (.cons _ _ _ _ hx (.cons _ _ _ _ (.bool b) .nil))
          | false => exact hx
        split at hv
        · rename_i j u hf
          obtain ⟨a, hs⟩ := findK_found hf
          have hkind := sameKey_kind hs
          have hck := checkKey_ok (P := P) (w := w) hs hk es'.isEmpty
          obtain ⟨f', e1, e2⟩ := findKey_ok r hk hkind her hf
          cases f' with
          | none => exact e2.elim
          | some q =>
            obtain ⟨j', u'⟩ := q
            refine ⟨_, lookup_run hu hx hck e1 (run_zeroValue_of hi hz w), ?_⟩
            have := fin (b := true) e2.2
            cases ok <;> simp only at hv <;> cases hv <;> exact this
        · rename_i hf
          split at hv
          · rename_i x hs
            have hkind := sameKey_kind hs
            have hck := checkKey_ok (P := P) (w := w) hs hk es'.isEmpty
            obtain ⟨f', e1, e2⟩ := findKey_ok r hk hkind her hf
            cases f' with
            | some q => exact e2.elim
            | none =>
              refine ⟨_, lookup_run hu hx hck e1 (run_zeroValue_of hi hz w), ?_⟩
              have := fin (b := false) hzr
              cases ok <;> simp only at hv <;> cases hv <;> exact this
          · cases hv
        · cases hv
  · cases hv
theorem ER.length : ∀ {l : List (NV × NV × Nat)} {l' : List MapEntry}, ER ρ l l' → l.length = l'.length
  | _, _, .nil => rfl
  | _, _, .cons _ _ _ _ _ _ _ _ _ hl => by simp [hl.length]
theorem lenMap_ok (r : HR w0 ng ρ h w) (hE : EvR ρ ev ev') {c : Go.Call} {ty : TypeId} {k e : TypeId} (hk : kd0 P c = .map k e) {v : NV} (hv : readN P h.rd ev (.call c) = some v) :
    ∃ v', (Builtin.len_ c.argTypes ty (c.args.map ev')).run P w = .ok v' w ∧ VR ρ v v' := by
  obtain ⟨t, et, hk⟩ := kd0_some hk (by simp)
  have hu := kd_map hk
  simp only [readN] at hv
  split at hv
  · rename_i hx
    obtain ⟨x', ea, hx⟩ := args_one hE hx
    rw [ea]
    cases hx
    cases hv
    exact ⟨goInt 0, by simp [Builtin.len_, et, run_underlying hu], VR.numL 0⟩
  · rename_i p hx
    obtain ⟨x', ea, hx⟩ := args_one hE hx
    rw [ea]
    obtain ⟨β, C, rfl, hρ⟩ := hx.map_inv
    split at hv
    · rename_i es clock hb
      obtain ⟨es', e1, e2⟩ := map_blk r hb hρ
      cases hv
      refine ⟨goInt es'.size, by simp [Builtin.len_, et, run_underlying hu, run_getObj_of e1], ?_⟩
      have := e2.length
      rw [lenL_eq, this]
      exact VR.numL _
    · cases hv
  · cases hv

/-- Operations that read memory: what the evaluator says is what the model does. -/
theorem read_ok (r : HR w0 ng ρ h w) (hE : EvR ρ ev ev') {o : Oper} (hc : isRead (cls P o.op) = true) {v : NV} (hv : readN P h.rd ev o.op = some v) : ∃ v', (execOp ev' o).run P w = .ok (.value v') w ∧ VR ρ v v' := by
  obtain ⟨dst, op, type, pos, after, guard⟩ := o
  simp only at hv hc
  cases op with
  | load t a =>
    have ha := hE a
    simp only [readN] at hv
    split at hv
    · rename_i p off he
      rw [he] at ha
      obtain ⟨β, C, e', hρ⟩ := ha.ptr_inv
      split at hv
      · rename_i ti hti
        obtain ⟨v', e, q⟩ := load_ok r hti hv hρ
        refine ⟨v', ?_, q⟩
        simp only [execOp]
        refine vrun ?_
        rw [e']
        simp only [Instr.loadAt, Instr.sureAddr, Sem.run_bind, Sem.run_pure, Result.andThen_ok]
        exact e
      · cases hv
    · rename_i q o l he
      rw [he] at ha
      obtain ⟨β, off, l', e', hk, hl⟩ := ha.fptr_inv
      split at hv
      · rename_i ti hti
        obtain ⟨v', e, q⟩ := loadF_ok r.frz_now hti hk hl hv
        refine ⟨v', ?_, q⟩
        simp only [execOp]
        refine vrun ?_
        rw [e']
        simp only [Instr.loadAt, Instr.sureAddr, Sem.run_bind, Sem.run_pure, Result.andThen_ok]
        exact e
      · cases hv
    · cases hv
  | binOp op t x y u =>
    simp only [readN] at hv
    have hk : eqK (kd P t) = .deep := by
      unfold binE at hv
      cases op <;> simp only [cls] at hc <;> first
        | (split at hc <;> first | assumption | (simp [isRead] at hc; done))
        | (simp [isRead] at hc; done)
    obtain ⟨v', e, q⟩ := binE_ok (t := t) (x := x) (y := y) r hE hv hk
    exact ⟨v', by simp only [execOp]; exact vrun e, q⟩
  | slice t x lo hi mx =>
    obtain ⟨v', e, q⟩ := sliceR_ok r hE hv
    exact ⟨v', by simp only [execOp]; exact vrun e, q⟩
  | lookup t m k ok =>
    obtain ⟨v', e, q⟩ := lookup_ok r hE hv
    exact ⟨v', by simp only [execOp]; exact vrun e, q⟩
  | convert s d x =>
    obtain ⟨v', e, q⟩ := convertB_ok r hE hv
    exact ⟨v', by simp only [execOp]; exact vrun e, q⟩
  | call c =>
    obtain ⟨callee, args, argTypes⟩ := c
    simp only [cls] at hc
    cases callee with
    | builtin b =>
      cases b with
      | len =>
        simp only at hc
        split at hc
        · rename_i k e hk
          obtain ⟨v', e, q⟩ := lenMap_ok (ty := type) r hE hk hv
          refine ⟨v', ?_, q⟩
          simp only [execOp, resolve, Sem.run_bind, Sem.run_pure, Result.andThen_ok, invoke, builtin]
          rw [e]
          rfl
        · simp [isRead] at hc
      | _ => simp [isRead] at hc
    | value f => simp [isRead] at hc
    | invoke r m => simp [isRead] at hc
  | _ => simp only [readN, reduceCtorEq] at hv
end
end Go.Ne
