/- bodkin/bodkinlaw17.EmbedForged (seat Ytcfjpomapolbfaa.ZD): a handle that was never given, or leads to something else, is refused by every call: the law returns true. -/
import Derived.Test.YtcfjpomapolbfaaGreatDoorEE
import Derived.Test.YtcfjpomapolbfaaGreatDoorER
set_option maxRecDepth 100000
set_option linter.unusedVariables false
namespace Go.Proofs.YtcfjpomapolbfaaGreatDoor.embedForged
open Go Go.Ne Go.ChangeShapes Go.WideShapes Go.ChangeAt Go.RowKit
theorem laidOut : laidOutB Tryz.prog = true := by kernel_rfl
theorem k3 : Tryz.prog.cellsOf 3 = 1 := by kernel_rfl
theorem k4 : Tryz.prog.cellsOf 4 = 1 := by kernel_rfl
theorem k22 : Tryz.prog.cellsOf 22 = 1 := by kernel_rfl
theorem k24 : Tryz.prog.cellsOf 24 = 4 := by kernel_rfl
section
variable {H : Type} {enc : TypeId × Value → H} {w : World} {base : Nat} {sp : Nat → Bool} {held : Bool}
theorem int_field {fuel : Nat} {t : TypeId} {k : IntKind} {c : Nat} {cs : List Value} {o : Nat} {v : Value} {x : DataW H × List MemPlace} (ht : Tryz.prog.underlying t = some (.int k)) (hc : c = 1) (hv : cs[o]? = some v)
    (h : DataW.trod enc Tryz.prog w base sp held fuel t ((cs.drop o).take c) = some x) : ∃ n, v = .int k n ∧ k.min ≤ n ∧ n ≤ k.max := by
  rw [take_one hc hv] at h
  obtain ⟨n, e, _, hw⟩ := DataW.trod_int ht h
  cases e
  exact ⟨n, rfl, wf_int hw⟩
theorem one_field {fuel : Nat} {t : TypeId} {c : Nat} {cs : List Value} {o : Nat} {v : Value} {x : DataW H × List MemPlace} (hc : c = 1) (hv : cs[o]? = some v)
    (h : DataW.trod enc Tryz.prog w base sp held fuel t ((cs.drop o).take c) = some x) : DataW.trod enc Tryz.prog w base sp held fuel t [v] = some x := by
  rw [take_one hc hv] at h
  exact h
theorem val_cells {fuel : Nat} {cs : List Value} {x : DataW H × List MemPlace} (h : DataW.trod enc Tryz.prog w base sp held fuel 24 cs = some x) :
    ∃ ty lo hi nl, cs = [.int .i64 ty, .int .u64 lo, .int .u64 hi, .bool nl] ∧ I64 ty ∧ U64 lo ∧ U64 hi := by
  obtain ⟨xs, n, rfl, rfl, hl, hxl, hf⟩ := DataW.trod_struct Tryz.underlying24 h
  rw [k24] at hl
  match cs, hl with
  | [c0, c1, c2, c3], _ =>
    match xs, hxl with
    | [x0, x1, x2, x3], _ =>
      obtain ⟨ty, rfl, b0⟩ := int_field (o := 0) Tryz.underlying3 k3 rfl (hf 0 _ rfl)
      obtain ⟨lo, rfl, b1⟩ := int_field (o := 1) Tryz.underlying22 k22 rfl (hf 1 _ rfl)
      obtain ⟨hi, rfl, b2⟩ := int_field (o := 2) Tryz.underlying22 k22 rfl (hf 2 _ rfl)
      have g3 := one_field (t := 4) (o := 3) (v := c3) k4 rfl (hf 3 _ rfl)
      obtain ⟨nl, e, _⟩ := DataW.trod_bool Tryz.underlying4 g3
      cases e
      exact ⟨ty, lo, hi, nl, rfl, b0, b1, b2⟩
end
theorem struct_val {t : TypeId} {fs : Array Field} {v : Value} {w : World} {base : Nat} (ht : Tryz.prog.underlying t = some (.struct fs)) (h : Value.okWide Tryz.prog w .any base t v) : ∃ cs : Array Value, v = .agg cs := by
  unfold Value.okWide at h
  rw [ht] at h
  obtain ⟨cs, e, _⟩ := h
  exact ⟨cs, e⟩


/-! ### The walk -/
theorem core [Sig] {W : World} (hz : FzOK W) (hL : laidMet Tryz.prog Rows.embedForgedRow.laid W) {x0 x1 ty lo hi : Int} {nl : Bool} {x3 : ByteArray} (b0 : I64 x0) (b1 : U64 x1) (c1 : I64 ty) (c2 : U64 lo) (c3 : U64 hi)
    (s3 : Sig.σ 3 = x0) (s4 : Sig.σ 4 = x1) (s5 : Sig.σ 5 = ty) (s6 : Sig.σ 6 = lo) (s7 : Sig.σ 7 = hi) (t0 : Sig.val 0 = .string x3) (t1 : Sig.val 1 = .bool nl) :
    Calls Tryz.prog 3 [.int .i64 x0, .int .u64 x1, .agg #[.int .i64 ty, .int .u64 lo, .int .u64 hi, .bool nl], .string x3].toArray W fun e w' => e = .returned (.bool true) ∧ Below W.heap.size W w' := by
  obtain ⟨ρ, G⟩ := beginW hz hL
  obtain ⟨x, hx, v1⟩ : ∃ x ∈ hdL, VR ρ x (.int .i64 x0) := by
    rcases (show x0 ≤ 0 ∨ x0 = 1 ∨ x0 = 2 ∨ 3 ≤ x0 by omega) with e | e | e | e
    · exact ⟨_, List.mem_of_getElem? (i := 0) rfl, si b0.1 e s3.symm⟩
    · subst e; exact ⟨_, List.mem_of_getElem? (i := 1) rfl, .int _ _⟩
    · subst e; exact ⟨_, List.mem_of_getElem? (i := 2) rfl, .int _ _⟩
    · exact ⟨_, List.mem_of_getElem? (i := 3) rfl, si e b0.2 s3.symm⟩
  obtain ⟨h1, hr⟩ := one_run hx
  have v3 : VR ρ rV (.agg #[.int .i64 ty, .int .u64 lo, .int .u64 hi, .bool nl]) :=
    .agg _ [_, _, _, _] (.cons _ _ _ _ (si c1.1 c1.2 s5.symm) (.cons _ _ _ _ (si c2.1 c2.2 s6.symm) (.cons _ _ _ _ (si c3.1 c3.2 s7.symm) (.cons _ _ _ _ (oi t1) .nil))))
  obtain ⟨c, hbody⟩ : ∃ c, Tryz.f3.body = some c := ⟨_, rfl⟩
  exact law_run (tab3_ok G 100000 60) G Tryz.func3 (by kernel_rfl) hbody hr
    (.cons _ _ _ _ v1 (.cons _ _ _ _ (si b1.1 b1.2 s4.symm) (.cons _ _ _ _ v3 (.cons _ _ _ _ (oi t0) .nil))))
theorem walk {W : World} (hL : laidMet Tryz.prog Rows.embedForgedRow.laid W) {x0 x1 ty lo hi : Int} {nl : Bool} {x3 : ByteArray} (b0 : I64 x0) (b1 : U64 x1) (c1 : I64 ty) (c2 : U64 lo) (c3 : U64 hi) :
    Calls Tryz.prog 3 [.int .i64 x0, .int .u64 x1, .agg #[.int .i64 ty, .int .u64 lo, .int .u64 hi, .bool nl], .string x3].toArray W fun e w' => e = .returned (.bool true) ∧ Below W.heap.size W w' := by
  letI S : Sig := sigOf (fun i => match i with | 2 => 1 | 3 => x0 | 4 => x1 | 5 => ty | 6 => lo | 7 => hi | _ => 0) (show (0 : Int) ≠ 1 by decide) (fun i => match i with | 0 => .string x3 | _ => .bool nl) (fun i => by match i with | 0 => rfl | n + 1 => rfl) (fun _ => none)
  exact core (fun k β off l hk => by cases hk) hL b0 b1 c1 c2 c3 (sigF_lo _ (by decide)) (sigF_lo _ (by decide)) (sigF_lo _ (by decide)) (sigF_lo _ (by decide)) (sigF_lo _ (by decide)) rfl rfl

/-! ### The row -/
def zeroArgs : Array Value := #[.int .i64 0, .int .u64 0, .agg #[.int .i64 0, .int .u64 0, .int .u64 0, .bool false], .string ByteArray.empty]
def zeroData {H : Type} : List (DataW H) := [.lit (.int .i64 0), .lit (.int .u64 0), .agg [.lit (.int .i64 0), .lit (.int .u64 0), .lit (.int .u64 0), .lit (.bool false)], .lit (.string [])]
theorem witness_row (os : Os) {H : Type} (enc : TypeId × Value → H) :
    (OpenSpec.ofChange Rows.embedForgedSpec).preRow enc Tryz.prog Tryz.f3 Rows.embedForgedRow.domain false Rows.embedForgedRow.laid ((laidWorld os).forCall (fun _ _ => 0) ⟨#[], zeroArgs, []⟩).memory zeroArgs := by
  have hw : (DataW.whole enc Tryz.prog ((laidWorld os).forCall (fun _ _ => 0) ⟨#[], zeroArgs, []⟩).memory Tryz.f3.params.toList Rows.embedForgedSpec.vars false zeroArgs.toList 8).map (fun x => (x.1, x.2.1)) =
      some (zeroData, []) := by kernel_rfl
  obtain ⟨⟨x1, x2, x3⟩, hx, hx1⟩ := Option.map_eq_some_iff.1 hw
  simp only [Prod.mk.injEq] at hx1
  obtain ⟨rfl, rfl⟩ := hx1
  exact OpenSpec.preRow_of_cond 8 hx (by kernel_rfl) (fun k hk => by cases hk) (by kernel_rfl) (laid_met os _)
theorem types_ok : ∀ t ∈ Tryz.f3.params.toList, Tryz.prog.readableRec t = true ∧ t < Tryz.prog.types.size := by
  rw [Tryz.params3]
  intro t ht
  have r3 : Tryz.prog.readableRec 3 = true := by kernel_rfl
  have r9 : Tryz.prog.readableRec 9 = true := by kernel_rfl
  have r22 : Tryz.prog.readableRec 22 = true := by kernel_rfl
  have r24 : Tryz.prog.readableRec 24 = true := by kernel_rfl
  have sz0 : Nat.ble 25 Tryz.prog.types.size = true := by kernel_rfl
  have sz : 25 ≤ Tryz.prog.types.size := Nat.le_of_ble_eq_true sz0
  have ht : t ∈ [3, 22, 24, 9] := ht
  simp only [List.mem_cons, List.mem_nil_iff, or_false] at ht
  rcases ht with rfl | rfl | rfl | rfl
  · exact ⟨r3, Nat.lt_of_lt_of_le (by decide) sz⟩
  · exact ⟨r22, Nat.lt_of_lt_of_le (by decide) sz⟩
  · exact ⟨r24, Nat.lt_of_lt_of_le (by decide) sz⟩
  · exact ⟨r9, Nat.lt_of_lt_of_le (by decide) sz⟩
set_option maxHeartbeats 2000000 in
theorem lifted (os : Os) (started : os.Started) (H : Type) (enc : TypeId × Value → H) (F : Stop.Interp) :
    ReturnsInHanded {} Tryz.checked os 3 .any ((OpenSpec.ofChange Rows.embedForgedSpec).preRow enc Tryz.prog Tryz.f3 Rows.embedForgedRow.domain false Rows.embedForgedRow.laid) (((OpenSpec.ofChange Rows.embedForgedSpec).at F).post enc Tryz.prog Tryz.f3 false true false false) := by
  refine returnsInHanded_of_row (C := Tryz.checked) (s := OpenSpec.ofChange Rows.embedForgedSpec) own started (by kernel_rfl) Tryz.func3
    (witness_row_atRef (enc := enc) (C := Tryz.checked) false (laidWorld os) zeroArgs rfl (by kernel_rfl) (by kernel_rfl) (by kernel_rfl) (witness_row os enc)) ?_
  intro W base args ds gs before hval0 hW _ _ _ hL _ _
  have hval : ∀ (j : Nat) t v, Tryz.f3.params[j]? = some t → args[j]? = some v → Value.okWide Tryz.prog W .any base t v := hval0
  have hW' := hW
  obtain ⟨p, q, hA0, hV, rfl, hfz, hnd⟩ := hW
  have hA : DataW.TrodAll enc Tryz.prog W 0 (fun _ => true) true Tryz.f3.params.toList args.toList ds p := hA0
  have hAk := hA
  rw [Tryz.params3] at hA hval
  obtain ⟨v0, vs0, d0, ds0, p0, q0, hargs, rfl, rfl, h0, r0⟩ := trodAll_cons hA
  obtain ⟨v1, vs1, d1, ds1, p1, q1, rfl, rfl, rfl, h1, r1⟩ := trodAll_cons r0
  obtain ⟨v2, vs2, d2, ds2, p2, q2, rfl, rfl, rfl, h2, r2⟩ := trodAll_cons r1
  obtain ⟨v3, vs3, d3, ds3, p3, q3, rfl, rfl, rfl, h3, r3⟩ := trodAll_cons r2
  obtain ⟨rfl, rfl, rfl⟩ := trodAll_nil r3
  obtain rfl : args = #[v0, v1, v2, v3] := by cases args; simp_all
  obtain ⟨rfl, rfl⟩ := trodVars_none hV
  obtain ⟨x0, rfl, rfl, rfl, w0⟩ := open_int Tryz.underlying3 (hval 0 3 v0 rfl rfl) h0
  obtain ⟨x1, rfl, rfl, rfl, w1⟩ := open_int Tryz.underlying22 (hval 1 22 v1 rfl rfl) h1
  obtain ⟨cs2, rfl⟩ := struct_val Tryz.underlying24 (hval 2 24 v2 rfl rfl)
  obtain ⟨n2, g2⟩ := h2
  obtain ⟨ty, lo, hi, nl, e2, c1, c2, c3⟩ := val_cells (cs := cs2.toList) g2
  obtain rfl : cs2 = #[.int .i64 ty, .int .u64 lo, .int .u64 hi, .bool nl] := by cases cs2; simp_all
  obtain ⟨x3, rfl, rfl, rfl, w3⟩ := Go.ChangeMaps.open_string Tryz.underlying9 (hval 3 9 v3 rfl rfl) h3
  clear hA0 hval0
  simp only [List.append_nil] at hW' hAk
  refine (walk hL (wf_int w0) (wf_int w1) c1 c2 c3).mono fun e W' ⟨he, hg⟩ => ?_
  subst he
  exact ⟨_, rfl, law_post laidOut rfl types_ok hW' hAk (fun _ _ _ => (trodAll_cons_mk (shut_bool Tryz.underlying4 _) trodAll_mk0)) rfl rfl hg (ok_one (by kernel_rfl) rfl (okWide_bool_mk Tryz.underlying4 _))⟩
end Go.Proofs.YtcfjpomapolbfaaGreatDoor.embedForged
