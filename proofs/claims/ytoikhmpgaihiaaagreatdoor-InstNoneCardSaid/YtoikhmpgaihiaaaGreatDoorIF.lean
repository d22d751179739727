/- bodkin/bodkinlaw16.InstNone (seat Ytoikhmpgaihiaaa.ZD): a store that is none, and limits below 0, are refused: the law returns true. -/
import Derived.Test.YtoikhmpgaihiaaaGreatDoorIE
import Derived.Test.YtoikhmpgaihiaaaGreatDoorIU
set_option maxRecDepth 100000
set_option linter.unusedVariables false
namespace Go.Proofs.YtoikhmpgaihiaaaGreatDoor.instNone
open Go Go.Ne Go.ChangeShapes Go.WideShapes Go.ChangeAt Go.RowKit
theorem laidOut : laidOutB Tryz.prog = true := by kernel_rfl
theorem struct_val {t : TypeId} {fs : Array Field} {v : Value} {w : World} {base : Nat} (ht : Tryz.prog.underlying t = some (.struct fs)) (h : Value.okWide Tryz.prog w .any base t v) : ∃ cs : Array Value, v = .agg cs := by
  unfold Value.okWide at h
  rw [ht] at h
  obtain ⟨cs, e, _⟩ := h
  exact ⟨cs, e⟩
theorem k3' : Tryz.prog.cellsOf 3 = 1 := by kernel_rfl
theorem k4' : Tryz.prog.cellsOf 4 = 1 := by kernel_rfl
theorem kk (t : TypeId) (h : t = 22 ∨ t = 23 ∨ t = 24 ∨ t = 25 ∨ t = 26 ∨ t = 27 ∨ t = 28 ∨ t = 29 ∨ t = 30) : Tryz.prog.cellsOf t = 1 := by
  rcases h with rfl | rfl | rfl | rfl | rfl | rfl | rfl | rfl | rfl <;> kernel_rfl


/-! ### The walk -/
def valOf (l : List Value) (s : ByteArray) (i : Nat) : Value := match i with
  | 0 => .string s
  | i + 1 => match l[i]? with
    | some v => ite (v.oneCell' = true) v (.bool false)
    | none => .bool false
theorem valOf_one (l : List Value) (s : ByteArray) (i : Nat) : (valOf l s i).oneCell' = true := by
  unfold valOf
  split
  · rfl
  · split
    · split
      · assumption
      · rfl
    · rfl
theorem one_slice {t e : TypeId} {H : Type} {enc : TypeId × Value → H} {w : World} {base : Nat} {sp : Nat → Bool} {held : Bool} {fuel : Nat} {v : Value} {y : DataW H × List MemPlace} (ht : Tryz.prog.underlying t = some (.slice e)) (h : DataW.trod enc Tryz.prog w base sp held fuel t [v] = some y) : v.oneCell' = true := by
  rcases DataW.trod_slice ht h with ⟨e0, _⟩ | ⟨_, _, _, _, _, _, _, e0, _⟩ <;> cases e0 <;> rfl
theorem walk {H : Type} {enc : TypeId × Value → H} {W : World} {sp : Nat → Bool} {held : Bool} (hL : laidMet Tryz.prog Rows.instNoneRow.laid W) {cs : Array Value} {fuel : Nat} {y : DataW H × List MemPlace} (hm : DataW.trod enc Tryz.prog W 0 sp held fuel 32 cs.toList = some y) {x1 : Int} {x2 : ByteArray} (b1 : I64 x1) :
    Calls Tryz.prog 3 [.agg cs, .int .i64 x1, .string x2].toArray W fun e w' => e = .returned (.bool true) ∧ Below W.heap.size W w' := by
  obtain ⟨cs⟩ := cs
  have hm : DataW.trod enc Tryz.prog W 0 sp held fuel 32 cs = some y := hm
  obtain ⟨_, _, _, _, hl, _⟩ := DataW.trod_struct Tryz.underlying32 hm
  rw [cn32] at hl
  match cs, hl with
  | [m0, m1, m2, m3, m4, m5, m6, m7, m8, m9, m10], _ =>
    letI S : Sig := sigOf (fun i => match i with | 2 => 1 | 3 => x1 | _ => 0) (show (0 : Int) ≠ 1 by decide) (valOf [m0, m1, m2, m3, m4, m5, m6, m7, m8, m9, m10] x2) (valOf_one _ _) (fzW W)
    obtain ⟨_, _, _, t0⟩ := field_at (i := 0) Tryz.underlying32 hm rfl (kk 22 (by decide)) rfl
    obtain ⟨_, _, _, t1⟩ := field_at (i := 1) Tryz.underlying32 hm rfl (kk 23 (by decide)) rfl
    obtain ⟨_, _, _, t2⟩ := field_at (i := 2) Tryz.underlying32 hm rfl (kk 24 (by decide)) rfl
    obtain ⟨_, _, _, t3⟩ := field_at (i := 3) Tryz.underlying32 hm rfl (kk 25 (by decide)) rfl
    obtain ⟨_, _, _, t4⟩ := field_at (i := 4) Tryz.underlying32 hm rfl (kk 26 (by decide)) rfl
    obtain ⟨_, _, _, t5⟩ := field_at (i := 5) Tryz.underlying32 hm rfl (kk 27 (by decide)) rfl
    obtain ⟨_, _, _, t6⟩ := field_at (i := 6) Tryz.underlying32 hm rfl (kk 28 (by decide)) rfl
    obtain ⟨_, _, _, t7⟩ := field_at (i := 7) Tryz.underlying32 hm rfl k3' rfl
    obtain ⟨_, _, _, t8⟩ := field_at (i := 8) Tryz.underlying32 hm rfl (kk 29 (by decide)) rfl
    obtain ⟨_, _, _, t9⟩ := field_at (i := 9) Tryz.underlying32 hm rfl (kk 30 (by decide)) rfl
    obtain ⟨_, _, _, t10⟩ := field_at (i := 10) Tryz.underlying32 hm rfl k4' rfl
    have e0 : Sig.val 1 = m0 := if_pos (one_slice Tryz.underlying22 t0)
    have e1 : Sig.val 2 = m1 := if_pos (one_slice Tryz.underlying23 t1)
    have e2 : Sig.val 3 = m2 := if_pos (one_slice Tryz.underlying24 t2)
    have e3 : Sig.val 4 = m3 := if_pos (one_slice Tryz.underlying25 t3)
    have e4 : Sig.val 5 = m4 := if_pos (one_slice Tryz.underlying26 t4)
    have e5 : Sig.val 6 = m5 := if_pos (one_slice Tryz.underlying27 t5)
    have e6 : Sig.val 7 = m6 := if_pos (one_slice Tryz.underlying28 t6)
    have e7 : Sig.val 8 = m7 := if_pos (by obtain ⟨n, e, _⟩ := DataW.trod_int Tryz.underlying3 t7; cases e; rfl)
    have e8 : Sig.val 9 = m8 := if_pos (one_slice Tryz.underlying29 t8)
    have e9 : Sig.val 10 = m9 := if_pos (one_slice Tryz.underlying30 t9)
    have e10 : Sig.val 11 = m10 := if_pos (by obtain ⟨n, e, _⟩ := DataW.trod_bool Tryz.underlying4 t10; cases e; rfl)
    have hz : ∀ k, Sig.fz k = fzW W k := fun k => rfl
    obtain ⟨y0, n0, q0, r0⟩ := types_of hz t0
    obtain ⟨y1, n1, q1, r1⟩ := imports_of hz t1
    obtain ⟨y2, n2, q2, r2⟩ := funcs_of hz t2
    obtain ⟨y3, ⟨n3, q3⟩, r3⟩ := ls_of Tryz.underlying25 t3
    obtain ⟨y4, ⟨n4, q4⟩, r4⟩ := ls_of Tryz.underlying26 t4
    obtain ⟨y5, n5, q5, r5⟩ := globals_of hz t5
    obtain ⟨y6, n6, q6, r6⟩ := exports_of hz t6
    obtain ⟨y8, n8, q8, r8⟩ := elems_of hz t8
    obtain ⟨y9, n9, q9, r9⟩ := datas_of hz t9
    obtain ⟨ρ, G⟩ := beginW (fzW_ok hz) hL
    obtain ⟨b, hb⟩ := fits_says G (x := fun k => match k with | 0 => y0 | 1 => y1 | 2 => y2 | 3 => y3 | 4 => y4 | 5 => y5 | 6 => y6 | 8 => y8 | _ => y9) (n := fun k => match k with | 0 => n0 | 1 => n1 | 2 => n2 | 3 => n3 | 4 => n4 | 5 => n5 | 6 => n6 | 8 => n8 | _ => n9)
      ⟨q0, q1, q2, q3, q4, q5, q6, q8, q9⟩ (fun k hk h7 => by
        rcases (show k = 0 ∨ k = 1 ∨ k = 2 ∨ k = 3 ∨ k = 4 ∨ k = 5 ∨ k = 6 ∨ k = 8 ∨ k = 9 by omega) with rfl | rfl | rfl | rfl | rfl | rfl | rfl | rfl | rfl
        · rw [e0]; exact r0 ρ
        · rw [e1]; exact r1 ρ
        · rw [e2]; exact r2 ρ
        · rw [e3]; exact r3 ρ
        · rw [e4]; exact r4 ρ
        · rw [e5]; exact r5 ρ
        · rw [e6]; exact r6 ρ
        · rw [e8]; exact r8 ρ
        · rw [e9]; exact r9 ρ)
    have s3 : Sig.σ 3 = x1 := sigF_lo _ (by decide)
    obtain ⟨x, hx, v1⟩ : ∃ x ∈ atL, VR ρ x (.int .i64 x1) := by
      rcases (show x1 ≤ -1 ∨ 0 ≤ x1 by omega) with e | e
      · exact ⟨_, List.mem_of_getElem? (i := 0) rfl, si b1.1 e s3.symm⟩
      · exact ⟨_, List.mem_of_getElem? (i := 1) rfl, si e b1.2 s3.symm⟩
    obtain ⟨h1, hr⟩ := one_run hx b
    have v0 : VR ρ mA (.agg [m0, m1, m2, m3, m4, m5, m6, m7, m8, m9, m10].toArray) :=
      .agg _ _ (.cons _ _ _ _ (oi e0) (.cons _ _ _ _ (oi e1) (.cons _ _ _ _ (oi e2) (.cons _ _ _ _ (oi e3) (.cons _ _ _ _ (oi e4) (.cons _ _ _ _ (oi e5) (.cons _ _ _ _ (oi e6) (.cons _ _ _ _ (oi e7) (.cons _ _ _ _ (oi e8) (.cons _ _ _ _ (oi e9) (.cons _ _ _ _ (oi e10) .nil)))))))))))
    obtain ⟨c, hbody⟩ : ∃ c, Tryz.f3.body = some c := ⟨_, rfl⟩
    exact law_run (tab5_ok G hb 100000 60) G Tryz.func3 (by kernel_rfl) hbody hr
      (.cons _ _ _ _ v0 (.cons _ _ _ _ v1 (.cons _ _ _ _ (oi (i := 0) rfl) .nil)))

/-! ### The row -/
def zeroArgs : Array Value := #[.agg #[.slice none 0 0, .slice none 0 0, .slice none 0 0, .slice none 0 0, .slice none 0 0, .slice none 0 0, .slice none 0 0, .int .i64 0, .slice none 0 0, .slice none 0 0, .bool false], .int .i64 0, .string ByteArray.empty]
def zeroData {H : Type} : List (DataW H) := [.agg [.nil, .nil, .nil, .nil, .nil, .nil, .nil, .lit (.int .i64 0), .nil, .nil, .lit (.bool false)], .lit (.int .i64 0), .lit (.string [])]
theorem witness_row (os : Os) {H : Type} (enc : TypeId × Value → H) :
    (OpenSpec.ofChange Rows.instNoneSpec).preRow enc Tryz.prog Tryz.f3 Rows.instNoneRow.domain false Rows.instNoneRow.laid ((laidWorld os).forCall (fun _ _ => 0) ⟨#[], zeroArgs, []⟩).memory zeroArgs := by
  have hw : (DataW.whole enc Tryz.prog ((laidWorld os).forCall (fun _ _ => 0) ⟨#[], zeroArgs, []⟩).memory Tryz.f3.params.toList Rows.instNoneSpec.vars false zeroArgs.toList 8).map (fun x => (x.1, x.2.1)) =
      some (zeroData, []) := by kernel_rfl
  obtain ⟨⟨x1, x2, x3⟩, hx, hx1⟩ := Option.map_eq_some_iff.1 hw
  simp only [Prod.mk.injEq] at hx1
  obtain ⟨rfl, rfl⟩ := hx1
  exact OpenSpec.preRow_of_cond 8 hx (by kernel_rfl) (fun k hk => by cases hk) (by kernel_rfl) (laid_met os _)
theorem types_ok : ∀ t ∈ Tryz.f3.params.toList, Tryz.prog.readableRec t = true ∧ t < Tryz.prog.types.size := by
  rw [Tryz.params3]
  intro t ht
  have r3 : Tryz.prog.readableRec 3 = true := by kernel_rfl
  have r9 : Tryz.prog.readableRec 9 = true := by kernel_rfl
  have r32 : Tryz.prog.readableRec 32 = true := by kernel_rfl
  have sz0 : Nat.ble 33 Tryz.prog.types.size = true := by kernel_rfl
  have sz : 33 ≤ Tryz.prog.types.size := Nat.le_of_ble_eq_true sz0
  have ht : t ∈ [32, 3, 9] := ht
  simp only [List.mem_cons, List.mem_nil_iff, or_false] at ht
  rcases ht with rfl | rfl | rfl
  · exact ⟨r32, Nat.lt_of_lt_of_le (by decide) sz⟩
  · exact ⟨r3, Nat.lt_of_lt_of_le (by decide) sz⟩
  · exact ⟨r9, Nat.lt_of_lt_of_le (by decide) sz⟩
set_option maxHeartbeats 2000000 in
theorem lifted (os : Os) (started : os.Started) (H : Type) (enc : TypeId × Value → H) (F : Stop.Interp) :
    ReturnsInHanded {} Tryz.checked os 3 .any ((OpenSpec.ofChange Rows.instNoneSpec).preRow enc Tryz.prog Tryz.f3 Rows.instNoneRow.domain false Rows.instNoneRow.laid) (((OpenSpec.ofChange Rows.instNoneSpec).at F).post enc Tryz.prog Tryz.f3 false true false false) := by
  refine returnsInHanded_of_row (C := Tryz.checked) (s := OpenSpec.ofChange Rows.instNoneSpec) own started (by kernel_rfl) Tryz.func3
    (witness_row_atRef (enc := enc) (C := Tryz.checked) false (laidWorld os) zeroArgs rfl (by kernel_rfl) (by kernel_rfl) (by kernel_rfl) (witness_row os enc)) ?_
  intro W base args ds gs before hval0 hW _ _ _ hL _ _
  have hval : ∀ (j : Nat) t v, Tryz.f3.params[j]? = some t → args[j]? = some v → Value.okWide Tryz.prog W .any base t v := hval0
  have hW' := hW
  obtain ⟨p, q, hA0, hV, rfl, hfz, hnd⟩ := hW
  have hA : DataW.TrodAll enc Tryz.prog W 0 (fun _ => true) true Tryz.f3.params.toList args.toList ds p := hA0
  have hAk := hA
  rw [Tryz.params3] at hA hval
  obtain ⟨v0, vs0, d0, ds0, p0, q0, hargs, rfl, rfl, h0, r0⟩ := trodAll_cons hA
  obtain ⟨v1, vs1, d1, ds1, p1, q1, rfl, rfl, rfl, h1, r1⟩ := trodAll_cons r0
  obtain ⟨v2, vs2, d2, ds2, p2, q2, rfl, rfl, rfl, h2, r2⟩ := trodAll_cons r1
  obtain ⟨rfl, rfl, rfl⟩ := trodAll_nil r2
  obtain rfl : args = #[v0, v1, v2] := by cases args; simp_all
  obtain ⟨rfl, rfl⟩ := trodVars_none hV
  obtain ⟨cs0, rfl⟩ := struct_val Tryz.underlying32 (hval 0 32 v0 rfl rfl)
  obtain ⟨n0, g0⟩ := h0
  obtain ⟨x1, rfl, rfl, rfl, w1⟩ := open_int Tryz.underlying3 (hval 1 3 v1 rfl rfl) h1
  obtain ⟨x2, rfl, rfl, rfl, w2⟩ := Go.ChangeMaps.open_string Tryz.underlying9 (hval 2 9 v2 rfl rfl) h2
  clear hA0 hval0
  simp only [List.append_nil] at hW' hAk
  refine (walk hL g0 (wf_int w1)).mono fun e W' ⟨he, hg⟩ => ?_
  subst he
  exact ⟨_, rfl, law_post laidOut rfl types_ok hW' hAk (fun _ _ _ => (trodAll_cons_mk (shut_bool Tryz.underlying4 _) trodAll_mk0)) rfl rfl hg (ok_one (by kernel_rfl) rfl (okWide_bool_mk Tryz.underlying4 _))⟩
end Go.Proofs.YtoikhmpgaihiaaaGreatDoor.instNone
