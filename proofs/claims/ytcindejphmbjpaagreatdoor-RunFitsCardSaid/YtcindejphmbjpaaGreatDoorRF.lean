/- RunFits (seat runfits): any value fits any type just where the document says; what doesn't fit isn't taken: the law returns true. -/
import Derived.Test.YtcindejphmbjpaaGreatDoorRE
import Derived.Test.YtcindejphmbjpaaGreatDoorRD
set_option maxRecDepth 100000
set_option linter.unusedVariables false
namespace Go.Proofs.YtcindejphmbjpaaGreatDoor.runFits
open Go Go.Ne Go.ChangeShapes Go.WideShapes Go.ChangeAt Go.RowKit
theorem laidOut : laidOutB Tryz.prog = true := by kernel_rfl
theorem k3 : Tryz.prog.cellsOf 3 = 1 := by kernel_rfl
theorem k4 : Tryz.prog.cellsOf 4 = 1 := by kernel_rfl
theorem k22 : Tryz.prog.cellsOf 22 = 1 := by kernel_rfl
theorem k24 : Tryz.prog.cellsOf 24 = 4 := by kernel_rfl
theorem k25 : Tryz.prog.cellsOf 25 = 1 := by kernel_rfl
theorem k27 : Tryz.prog.cellsOf 27 = 5 := by kernel_rfl

/-! ### What comes in -/
def I64 (n : Int) : Prop := -9223372036854775808 ≤ n ∧ n ≤ 9223372036854775807
def U64 (n : Int) : Prop := 0 ≤ n ∧ n ≤ 18446744073709551615
section
variable {H : Type} {enc : TypeId × Value → H} {w : World} {base : Nat} {sp : Nat → Bool} {held : Bool}
theorem int_field {fuel : Nat} {t : TypeId} {k : IntKind} {c : Nat} {cs : List Value} {o : Nat} {v : Value} {x : DataW H × List MemPlace} (ht : Tryz.prog.underlying t = some (.int k)) (hc : c = 1) (hv : cs[o]? = some v)
    (h : DataW.trod enc Tryz.prog w base sp held fuel t ((cs.drop o).take c) = some x) : ∃ n, v = .int k n ∧ k.min ≤ n ∧ n ≤ k.max := by
  rw [take_one hc hv] at h
  obtain ⟨n, e, _, hw⟩ := DataW.trod_int ht h
  cases e
  exact ⟨n, rfl, wf_int hw⟩
theorem one_field {fuel : Nat} {t : TypeId} {c : Nat} {cs : List Value} {o : Nat} {v : Value} {x : DataW H × List MemPlace} (hc : c = 1) (hv : cs[o]? = some v)
    (h : DataW.trod enc Tryz.prog w base sp held fuel t ((cs.drop o).take c) = some x) : DataW.trod enc Tryz.prog w base sp held fuel t [v] = some x := by
  rw [take_one hc hv] at h
  exact h
theorem val_cells {fuel : Nat} {cs : List Value} {x : DataW H × List MemPlace} (h : DataW.trod enc Tryz.prog w base sp held fuel 24 cs = some x) :
    ∃ ty lo hi nl, cs = [.int .i64 ty, .int .u64 lo, .int .u64 hi, .bool nl] ∧ I64 ty ∧ U64 lo ∧ U64 hi := by
  obtain ⟨xs, n, rfl, rfl, hl, hxl, hf⟩ := DataW.trod_struct Tryz.underlying24 h
  rw [k24] at hl
  match cs, hl with
  | [c0, c1, c2, c3], _ =>
    match xs, hxl with
    | [x0, x1, x2, x3], _ =>
      obtain ⟨ty, rfl, b0⟩ := int_field (o := 0) Tryz.underlying3 k3 rfl (hf 0 _ rfl)
      obtain ⟨lo, rfl, b1⟩ := int_field (o := 1) Tryz.underlying22 k22 rfl (hf 1 _ rfl)
      obtain ⟨hi, rfl, b2⟩ := int_field (o := 2) Tryz.underlying22 k22 rfl (hf 2 _ rfl)
      have g3 := one_field (t := 4) (o := 3) (v := c3) k4 rfl (hf 3 _ rfl)
      obtain ⟨nl, e, _⟩ := DataW.trod_bool Tryz.underlying4 g3
      cases e
      exact ⟨ty, lo, hi, nl, rfl, b0, b1, b2⟩
theorem run_cells {fuel : Nat} {cs : List Value} {x : DataW H × List MemPlace} (h : DataW.trod enc Tryz.prog w base sp held fuel 27 cs = some x) :
    ∃ a b c d s n y, cs = [.int .i64 a, .int .i64 b, .int .i64 c, .int .i64 d, s] ∧ I64 a ∧ I64 b ∧ I64 c ∧ I64 d ∧ DataW.trod enc Tryz.prog w base sp held n 25 [s] = some y := by
  obtain ⟨xs, n, rfl, rfl, hl, hxl, hf⟩ := DataW.trod_struct Tryz.underlying27 h
  rw [k27] at hl
  match cs, hl with
  | [c0, c1, c2, c3, c4], _ =>
    match xs, hxl with
    | [x0, x1, x2, x3, x4], _ =>
      obtain ⟨a, rfl, b0⟩ := int_field (o := 0) Tryz.underlying3 k3 rfl (hf 0 _ rfl)
      obtain ⟨b, rfl, b1⟩ := int_field (o := 1) Tryz.underlying3 k3 rfl (hf 1 _ rfl)
      obtain ⟨c, rfl, b2⟩ := int_field (o := 2) Tryz.underlying3 k3 rfl (hf 2 _ rfl)
      obtain ⟨d, rfl, b3⟩ := int_field (o := 3) Tryz.underlying3 k3 rfl (hf 3 _ rfl)
      have g4 := one_field (t := 25) (o := 4) (v := c4) k25 rfl (hf 4 _ rfl)
      exact ⟨a, b, c, d, c4, n, x4, rfl, b0, b1, b2, b3, g4⟩
theorem add4 (β off n : Nat) : (⟨β, off, none⟩ : Addr).add n = ⟨β, off + n, none⟩ := by
  unfold Addr.add
  split
  · rename_i h; subst h; rfl
  · rfl
/-- What the slice of arguments is. -/
inductive Sl (w : World) : Value → Prop
  | any (p : Option Addr) (n c : Nat) (h : n ≤ 9223372036854775807) (h1 : n ≠ 1) : Sl w (.slice p n c)
  | one (β off c : Nat) (ty lo hi : Int) (nl : Bool) (b1 : I64 ty) (b2 : U64 lo) (b3 : U64 hi) (hc : 1 ≤ c) (cs : Array Value) (t : TypeId) (fr : Nat × Nat) (hh : w.heap[β]? = some (.cells cs t fr))
      (h0 : cs[off]? = some (.int .i64 ty)) (h1 : cs[off + 1]? = some (.int .u64 lo)) (h2 : cs[off + 2]? = some (.int .u64 hi)) (h3 : cs[off + 3]? = some (.bool nl)) : Sl w (.slice (some ⟨β, off, none⟩) 1 c)
theorem slice_cells {fuel : Nat} {s : Value} {x : DataW H × List MemPlace} (h : DataW.trod enc Tryz.prog w base sp held fuel 25 [s] = some x) : Sl w s := by
  rcases DataW.trod_slice Tryz.underlying25 h with ⟨e, _⟩ | ⟨a, len, cap, elems, rest, n, _, e, _, hb, hl, hm, hlen, hel, hsp, hns⟩
  · cases e
    exact .any none 0 0 (by omega) (by omega)
  · cases e
    by_cases h1 : len = 1
    · subst h1
      have g := hel 0 (by omega)
      obtain ⟨y, hy⟩ : ∃ y, elems[0]? = some y := ⟨_, List.getElem?_eq_getElem (by omega)⟩
      rw [hy, Option.bind_eq_some_iff] at g
      obtain ⟨cs', hcs, hty⟩ := g
      obtain ⟨ty, lo, hi, nl, rfl, b1, b2, b3⟩ := val_cells hty
      rw [k24] at hcs
      obtain ⟨_, _, hcell⟩ := World.cells?_some hcs
      have e0 := hcell 0 (by omega)
      have e1 := hcell 1 (by omega)
      have e2 := hcell 2 (by omega)
      have e3 := hcell 3 (by omega)
      have hs : a.spot = none := by
        obtain ⟨_, _, _, _, hs, _⟩ := cell_spot4 (v := .int .i64 ty) e0
        simpa [Addr.add] using hs
      obtain ⟨β, off, spot⟩ := a
      obtain rfl : spot = none := hs
      rw [add4, add4] at e0 e1 e2 e3
      simp only [Nat.zero_mul, Nat.add_zero] at e0 e1 e2 e3
      obtain ⟨cs, t, fr, hh, hs0, d0⟩ := cell_spot4 (v := .int .i64 ty) e0
      obtain ⟨cs1, t1, fr1, hh1, hs1, d1⟩ := cell_spot4 (v := .int .u64 lo) e1
      obtain ⟨cs2, t2, fr2, hh2, hs2, d2⟩ := cell_spot4 (v := .int .u64 hi) e2
      obtain ⟨cs3, t3, fr3, hh3, hs3, d3⟩ := cell_spot4 (v := .bool nl) e3
      rw [hh] at hh1 hh2 hh3
      cases hh1; cases hh2; cases hh3
      exact .one β off cap ty lo hi nl b1 b2 b3 hl cs t fr hh d0 d1 d2 d3
    · have : maxLen = 9223372036854775807 := rfl
      exact .any _ _ _ (by omega) h1
end
theorem struct_val {t : TypeId} {fs : Array Field} {v : Value} {w : World} {base : Nat} (ht : Tryz.prog.underlying t = some (.struct fs)) (h : Value.okWide Tryz.prog w .any base t v) : ∃ cs : Array Value, v = .agg cs := by
  unfold Value.okWide at h
  rw [ht] at h
  obtain ⟨cs, e, _⟩ := h
  exact ⟨cs, e⟩

/-! ### The walk -/
theorem core [Sig] {W : World} (hz : FzOK W) (hL : laidMet Tryz.prog Rows.runFitsRow.laid W) {ty lo hi t f g d p : Int} {nl : Bool} {s : Value} (b1 : I64 ty) (b2 : U64 lo) (b3 : U64 hi) (b4 : I64 t) (b5 : I64 f) (b6 : I64 g) (b7 : I64 d) (b8 : I64 p)
    (s1 : ty ≠ t → Sig.σ 1 = ty) (s2 : Sig.σ 2 = t) (s3 : Sig.σ 3 = lo) (s4 : Sig.σ 4 = hi) (s5 : Sig.σ 5 = f) (s6 : Sig.σ 6 = g) (s7 : Sig.σ 7 = d) (s8 : Sig.σ 8 = p) (hA : ∀ ρ : Rho, ∃ a ∈ aL, VR ρ a s) :
    Calls Tryz.prog 3 #[.agg #[.int .i64 ty, .int .u64 lo, .int .u64 hi, .bool nl], .int .i64 t, .agg #[.int .i64 f, .int .i64 g, .int .i64 d, .int .i64 p, s]] W fun e w' => e = .returned (.bool true) ∧ Below W.heap.size W w' := by
  obtain ⟨ρ, G⟩ := beginW hz hL
  obtain ⟨x, hx, v1, v2⟩ := vsel ρ ty lo hi t nl b1 b2 b3 b4 s1 s2 s3 s4
  obtain ⟨a, ha, v3⟩ := hA ρ
  obtain ⟨h1, hr⟩ := one_run hx ha
  have v4 : VR ρ (rA a) (.agg #[.int .i64 f, .int .i64 g, .int .i64 d, .int .i64 p, s]) :=
    .agg _ [_, _, _, _, _] (.cons _ _ _ _ (si b5.1 b5.2 s5.symm) (.cons _ _ _ _ (si b6.1 b6.2 s6.symm) (.cons _ _ _ _ (si b7.1 b7.2 s7.symm) (.cons _ _ _ _ (si b8.1 b8.2 s8.symm) (.cons _ _ _ _ v3 .nil)))))
  rcases tab3_ok G 100000 60 ρ hW W 3 [x.1, x.2, rA a] [.agg #[.int .i64 ty, .int .u64 lo, .int .u64 hi, .bool nl], .int .i64 t, .agg #[.int .i64 f, .int .i64 g, .int .i64 d, .int .i64 p, s]] (.bool true) h1 G (.cons _ _ _ _ v1 (.cons _ _ _ _ v2 (.cons _ _ _ _ v4 .nil))) hr with ⟨_, k⟩ | ⟨v', k, _⟩
  · refine Calls.mono k ?_
    rintro e w' ⟨v', ρ', rfl, q1, q2, q3⟩
    exact ⟨by rw [q3.bool_inv], q1.below⟩
  · have hb : ∃ c, Tryz.f3.body = some c := ⟨_, rfl⟩
    obtain ⟨c, hb⟩ := hb
    have := Go.MuLone.run_callFunc_enter (P := Tryz.prog) Tryz.func3 (by kernel_rfl) hb [Value.agg #[.int .i64 ty, .int .u64 lo, .int .u64 hi, .bool nl], .int .i64 t, .agg #[.int .i64 f, .int .i64 g, .int .i64 d, .int .i64 p, s]].toArray W
    rw [show cW.P = Tryz.prog from rfl] at k
    rw [this] at k
    cases k
def fzOne (β off : Nat) (l : List Value) (k : Nat) : Option (Nat × Nat × List Value) := if k = 0 then some (β, off, l) else none
theorem ne_next (ty t : Int) : (if ty = t then t + 1 else ty) ≠ t := by
  split
  · omega
  · assumption
theorem walk {W : World} (hL : laidMet Tryz.prog Rows.runFitsRow.laid W) {ty lo hi t f g d p : Int} {nl : Bool} {s : Value} (b1 : I64 ty) (b2 : U64 lo) (b3 : U64 hi) (b4 : I64 t) (b5 : I64 f) (b6 : I64 g) (b7 : I64 d) (b8 : I64 p) (hs : Sl W s) :
    Calls Tryz.prog 3 #[.agg #[.int .i64 ty, .int .u64 lo, .int .u64 hi, .bool nl], .int .i64 t, .agg #[.int .i64 f, .int .i64 g, .int .i64 d, .int .i64 p, s]] W fun e w' => e = .returned (.bool true) ∧ Below W.heap.size W w' := by
  cases hs with
  | any q n c h h1 =>
    letI S : Sig := ⟨fun i => match i with | 1 => if ty = t then t + 1 else ty | 2 => t | 3 => lo | 4 => hi | 5 => f | 6 => g | 7 => d | 8 => p | 12 => n | _ => 0, ne_next ty t, fun _ => ByteArray.empty, fun _ => none⟩
    refine core (fun k β off l hk => by cases hk) hL b1 b2 b3 b4 b5 b6 b7 b8 (fun hne => if_neg hne) rfl rfl rfl rfl rfl rfl rfl fun ρ => ?_
    rcases (show n = 0 ∨ (2 ≤ n ∧ n ≤ 50) ∨ 51 ≤ n by omega) with h2 | h2 | h2
    · exact ⟨_, List.mem_of_getElem? (i := 0) rfl, .anys _ _ _ _ _ _ (show (0 : Int) ≤ n by omega) (show (n : Int) ≤ 0 by omega) (fun j hj => by cases hj; rfl)⟩
    · exact ⟨_, List.mem_of_getElem? (i := 1) rfl, .anys _ _ _ _ _ _ (show (2 : Int) ≤ n by omega) (show (n : Int) ≤ 50 by omega) (fun j hj => by cases hj; rfl)⟩
    · exact ⟨_, List.mem_of_getElem? (i := 2) rfl, .anys _ _ _ _ _ _ (show (51 : Int) ≤ n by omega) (show (n : Int) ≤ 9223372036854775807 by omega) (fun j hj => by cases hj; rfl)⟩
  | one β off c ty' lo' hi' nl' c1 c2 c3 hc cs t' fr hh h0 h1 h2 h3 =>
    letI S : Sig := ⟨fun i => match i with | 1 => if ty = t then t + 1 else ty | 2 => t | 3 => lo | 4 => hi | 5 => f | 6 => g | 7 => d | 8 => p | 9 => ty' | 10 => lo' | 11 => hi' | _ => 0, ne_next ty t, fun _ => ByteArray.empty, fzOne β off [.int .i64 ty', .int .u64 lo', .int .u64 hi', .bool nl']⟩
    refine core (fun k β' off' l hk => ?_) hL b1 b2 b3 b4 b5 b6 b7 b8 (fun hne => if_neg hne) rfl rfl rfl rfl rfl rfl rfl fun ρ => asel ρ ty' lo' hi' nl' c1 c2 c3 rfl rfl rfl rfl hc
    have hk : fzOne β off [.int .i64 ty', .int .u64 lo', .int .u64 hi', .bool nl'] k = some (β', off', l) := hk
    unfold fzOne at hk
    split at hk
    · cases hk
      refine ⟨cs, t', fr, hh, fun j v hj => ?_⟩
      match j, hj with
      | 0, hj => cases hj; exact h0
      | 1, hj => cases hj; exact h1
      | 2, hj => cases hj; exact h2
      | 3, hj => cases hj; exact h3
    · cases hk

/-! ### The row -/
def zeroArgs : Array Value := #[.agg #[.int .i64 0, .int .u64 0, .int .u64 0, .bool false], .int .i64 0, .agg #[.int .i64 0, .int .i64 0, .int .i64 0, .int .i64 0, .slice none 0 0]]
def zeroData {H : Type} : List (DataW H) := [.agg [.lit (.int .i64 0), .lit (.int .u64 0), .lit (.int .u64 0), .lit (.bool false)], .lit (.int .i64 0), .agg [.lit (.int .i64 0), .lit (.int .i64 0), .lit (.int .i64 0), .lit (.int .i64 0), .nil]]
theorem witness_row (os : Os) {H : Type} (enc : TypeId × Value → H) :
    (OpenSpec.ofChange Rows.runFitsSpec).preRow enc Tryz.prog Tryz.f3 Rows.runFitsRow.domain false Rows.runFitsRow.laid ((laidWorld os).forCall (fun _ _ => 0) ⟨#[], zeroArgs, []⟩).memory zeroArgs := by
  have hw : (DataW.whole enc Tryz.prog ((laidWorld os).forCall (fun _ _ => 0) ⟨#[], zeroArgs, []⟩).memory Tryz.f3.params.toList Rows.runFitsSpec.vars false zeroArgs.toList 8).map (fun x => (x.1, x.2.1)) =
      some (zeroData, []) := by kernel_rfl
  obtain ⟨⟨x1, x2, x3⟩, hx, hx1⟩ := Option.map_eq_some_iff.1 hw
  simp only [Prod.mk.injEq] at hx1
  obtain ⟨rfl, rfl⟩ := hx1
  exact OpenSpec.preRow_of_cond 8 hx (by kernel_rfl) (fun k hk => by cases hk) (by kernel_rfl) (laid_met os _)
theorem types_ok : ∀ t ∈ Tryz.f3.params.toList, Tryz.prog.readableRec t = true ∧ t < Tryz.prog.types.size := by
  rw [Tryz.params3]
  intro t ht
  have r24 : Tryz.prog.readableRec 24 = true := by kernel_rfl
  have r3 : Tryz.prog.readableRec 3 = true := by kernel_rfl
  have r27 : Tryz.prog.readableRec 27 = true := by kernel_rfl
  have sz0 : Nat.ble 28 Tryz.prog.types.size = true := by kernel_rfl
  have sz : 28 ≤ Tryz.prog.types.size := Nat.le_of_ble_eq_true sz0
  have ht : t ∈ [24, 3, 27] := ht
  simp only [List.mem_cons, List.mem_nil_iff, or_false] at ht
  rcases ht with rfl | rfl | rfl
  · exact ⟨r24, Nat.lt_of_lt_of_le (by decide) sz⟩
  · exact ⟨r3, Nat.lt_of_lt_of_le (by decide) sz⟩
  · exact ⟨r27, Nat.lt_of_lt_of_le (by decide) sz⟩
set_option maxHeartbeats 2000000 in
theorem lifted (os : Os) (started : os.Started) (H : Type) (enc : TypeId × Value → H) (F : Stop.Interp) :
    ReturnsInHanded {} Tryz.checked os 3 .any ((OpenSpec.ofChange Rows.runFitsSpec).preRow enc Tryz.prog Tryz.f3 Rows.runFitsRow.domain false Rows.runFitsRow.laid) (((OpenSpec.ofChange Rows.runFitsSpec).at F).post enc Tryz.prog Tryz.f3 false true false false) := by
  refine returnsInHanded_of_row (C := Tryz.checked) (s := OpenSpec.ofChange Rows.runFitsSpec) own started (by kernel_rfl) Tryz.func3
    (witness_row_atRef (enc := enc) (C := Tryz.checked) false (laidWorld os) zeroArgs rfl (by kernel_rfl) (by kernel_rfl) (by kernel_rfl) (witness_row os enc)) ?_
  intro W base args ds gs before hval0 hW _ _ _ hL _ _
  have hval : ∀ (j : Nat) t v, Tryz.f3.params[j]? = some t → args[j]? = some v → Value.okWide Tryz.prog W .any base t v := hval0
  have hW' := hW
  obtain ⟨p, q, hA0, hV, rfl, hfz, hnd⟩ := hW
  have hA : DataW.TrodAll enc Tryz.prog W 0 (fun _ => true) true Tryz.f3.params.toList args.toList ds p := hA0
  have hAk := hA
  rw [Tryz.params3] at hA hval
  obtain ⟨v0, vs0, d0, ds0, p0, q0, hargs, rfl, rfl, h0, r0⟩ := trodAll_cons hA
  obtain ⟨v1, vs1, d1, ds1, p1, q1, rfl, rfl, rfl, h1, r1⟩ := trodAll_cons r0
  obtain ⟨v2, vs2, d2, ds2, p2, q2, rfl, rfl, rfl, h2, r2⟩ := trodAll_cons r1
  obtain ⟨rfl, rfl, rfl⟩ := trodAll_nil r2
  obtain rfl : args = #[v0, v1, v2] := by cases args; simp_all
  obtain ⟨rfl, rfl⟩ := trodVars_none hV
  obtain ⟨t, rfl, rfl, rfl, w1⟩ := open_int Tryz.underlying3 (hval 1 3 v1 rfl rfl) h1
  obtain ⟨cs0, rfl⟩ := struct_val Tryz.underlying24 (hval 0 24 v0 rfl rfl)
  obtain ⟨cs2, rfl⟩ := struct_val Tryz.underlying27 (hval 2 27 v2 rfl rfl)
  obtain ⟨n0, g0⟩ := h0
  obtain ⟨n2, g2⟩ := h2
  obtain ⟨ty, lo, hi, nl, e0, b1, b2, b3⟩ := val_cells (cs := cs0.toList) g0
  obtain ⟨f, g, d, pg, s, n, y, e2, b5, b6, b7, b8, hs⟩ := run_cells (cs := cs2.toList) g2
  obtain rfl : cs0 = #[.int .i64 ty, .int .u64 lo, .int .u64 hi, .bool nl] := by cases cs0; simp_all
  obtain rfl : cs2 = #[.int .i64 f, .int .i64 g, .int .i64 d, .int .i64 pg, s] := by cases cs2; simp_all
  clear hA0 hval0
  simp only [List.append_nil] at hW' hAk
  refine (walk hL b1 b2 b3 (wf_int w1) b5 b6 b7 b8 (slice_cells hs)).mono fun e W' ⟨he, hg⟩ => ?_
  subst he
  exact ⟨_, rfl, law_post laidOut rfl types_ok hW' hAk (fun _ _ _ => (trodAll_cons_mk (shut_bool Tryz.underlying4 _) trodAll_mk0)) rfl rfl hg (ok_one (by kernel_rfl) rfl (okWide_bool_mk Tryz.underlying4 _))⟩
end Go.Proofs.YtcindejphmbjpaaGreatDoor.runFits

