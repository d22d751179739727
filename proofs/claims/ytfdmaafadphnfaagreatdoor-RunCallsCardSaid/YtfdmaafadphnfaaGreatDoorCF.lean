/- bodkin/bodkinlaw15.RunCalls (seat Ytfdmaafadphnfaa.ZD): a call through a table, of any place, by any type, does what the document says: the law returns true. -/
import Derived.Test.YtfdmaafadphnfaaGreatDoorCE
import Derived.Test.YtfdmaafadphnfaaGreatDoorCR
set_option maxRecDepth 100000
set_option linter.unusedVariables false
namespace Go.Proofs.YtfdmaafadphnfaaGreatDoor.runCalls
open Go Go.Ne Go.ChangeShapes Go.WideShapes Go.ChangeAt Go.RowKit
theorem laidOut : laidOutB Tryz.prog = true := by kernel_rfl
def U32 (n : Int) : Prop := 0 ≤ n ∧ n ≤ 4294967295
theorem sigF_hi (f : Nat → Int) {n : Nat} (h1 : ¬ n < 65536) (h2 : n < 16777216) (h : f n % (((n / 256 - 256) + 1 : Nat) : Int) = ((n % 256 : Nat) : Int)) : sigF f n = f n := by
  unfold sigF sig0
  rw [if_pos h2, if_neg h1, if_pos h]


/-! ### The walk -/
theorem core [Sig] {W : World} (hz : FzOK W) (hL : laidMet Tryz.prog Rows.runCallsRow.laid W) {x0 x1 x2 x3 : Int} (b0 : I64 x0) (b1 : U32 x1) (b2 : U32 x2) (b3 : I64 x3)
    (s0 : Sig.σ (65792 + (x0 % 2).toNat) = x0) (s3 : Sig.σ 3 = x1) (s4 : Sig.σ 4 = x2) (s5 : Sig.σ 5 = x3) :
    Calls Tryz.prog 3 [.int .i64 x0, .int .u32 x1, .int .u32 x2, .int .i64 x3].toArray W fun e w' => e = .returned (.bool true) ∧ Below W.heap.size W w' := by
  obtain ⟨ρ, G⟩ := beginW hz hL
  obtain ⟨a, ha, v1⟩ : ∃ a ∈ atL, VR ρ a (.int .u32 x1) := by
    rcases (show x1 = 0 ∨ x1 = 1 ∨ x1 = 2 ∨ 3 ≤ x1 by have := b1.1; omega) with e | e | e | e
    · subst e; exact ⟨_, List.mem_of_getElem? (i := 0) rfl, .int _ _⟩
    · subst e; exact ⟨_, List.mem_of_getElem? (i := 1) rfl, .int _ _⟩
    · subst e; exact ⟨_, List.mem_of_getElem? (i := 2) rfl, .int _ _⟩
    · exact ⟨_, List.mem_of_getElem? (i := 3) rfl, si e b1.2 s3.symm⟩
  obtain ⟨d, hd, v3⟩ : ∃ d ∈ dL, VR ρ d (.int .i64 x3) := by
    rcases (show x3 ≤ -1 ∨ x3 = 0 ∨ x3 = 1 ∨ x3 = 2 ∨ (3 ≤ x3 ∧ x3 ≤ 10) ∨ 11 ≤ x3 by omega) with e | e | e | e | e | e
    · exact ⟨_, List.mem_of_getElem? (i := 0) rfl, si b3.1 e s5.symm⟩
    · subst e; exact ⟨_, List.mem_of_getElem? (i := 1) rfl, .int _ _⟩
    · subst e; exact ⟨_, List.mem_of_getElem? (i := 2) rfl, .int _ _⟩
    · subst e; exact ⟨_, List.mem_of_getElem? (i := 3) rfl, .int _ _⟩
    · exact ⟨_, List.mem_of_getElem? (i := 4) rfl, si e.1 e.2 s5.symm⟩
    · exact ⟨_, List.mem_of_getElem? (i := 5) rfl, si e b3.2 s5.symm⟩
  obtain ⟨c, hbody⟩ : ∃ c, Tryz.f3.body = some c := ⟨_, rfl⟩
  rcases (show x0 % 2 = 0 ∨ x0 % 2 = 1 by omega) with e | e
  · rw [e] at s0
    obtain ⟨h1, hr⟩ := one_run0 ha (z := .sint .u32 (some 4) (.ofNat 0) (.ofNat 4294967295)) (List.mem_of_getElem? (i := 0) rfl) hd
    exact law_run (tab3_ok G 100000 60) G Tryz.func3 (by kernel_rfl) hbody hr
      (.cons _ _ _ _ (si b0.1 b0.2 s0.symm) (.cons _ _ _ _ v1 (.cons _ _ _ _ (si b2.1 b2.2 s4.symm) (.cons _ _ _ _ v3 .nil))))
  · rw [e] at s0
    obtain ⟨z, hz, v2⟩ : ∃ z ∈ arL1, VR ρ z (.int .u32 x2) := by
      rcases (show x2 = 0 ∨ 1 ≤ x2 by have := b2.1; omega) with e | e
      · subst e; exact ⟨_, List.mem_of_getElem? (i := 0) rfl, .int _ _⟩
      · exact ⟨_, List.mem_of_getElem? (i := 1) rfl, si e b2.2 s4.symm⟩
    obtain ⟨h1, hr⟩ := one_run1 ha hz hd
    exact law_run (tab3_ok G 100000 60) G Tryz.func3 (by kernel_rfl) hbody hr
      (.cons _ _ _ _ (si b0.1 b0.2 s0.symm) (.cons _ _ _ _ v1 (.cons _ _ _ _ v2 (.cons _ _ _ _ v3 .nil))))
def fOf (x0 x1 x2 x3 : Int) (i : Nat) : Int := if 65536 ≤ i then x0 else if i = 2 then 1 else if i = 3 then x1 else if i = 4 then x2 else if i = 5 then x3 else 0
theorem walk {W : World} (hL : laidMet Tryz.prog Rows.runCallsRow.laid W) {x0 x1 x2 x3 : Int} (b0 : I64 x0) (b1 : U32 x1) (b2 : U32 x2) (b3 : I64 x3) :
    Calls Tryz.prog 3 [.int .i64 x0, .int .u32 x1, .int .u32 x2, .int .i64 x3].toArray W fun e w' => e = .returned (.bool true) ∧ Below W.heap.size W w' := by
  letI S : Sig := sigOf (fOf x0 x1 x2 x3) (show (0 : Int) ≠ 1 by decide) (fun _ => .bool false) (fun _ => rfl) (fun _ => none)
  refine core (fun k β off l hk => by cases hk) hL b0 b1 b2 b3 ?_ (sigF_lo _ (by decide)) (sigF_lo _ (by decide)) (sigF_lo _ (by decide))
  have hr : (x0 % 2).toNat < 2 := by omega
  have e : fOf x0 x1 x2 x3 (65792 + (x0 % 2).toNat) = x0 := by unfold fOf; rw [if_pos (by omega)]
  have g : sigF (fOf x0 x1 x2 x3) (65792 + (x0 % 2).toNat) = fOf x0 x1 x2 x3 (65792 + (x0 % 2).toNat) := by
    refine sigF_hi _ (by omega) (by omega) ?_
    rw [e]
    have h1 : (65792 + (x0 % 2).toNat) / 256 - 256 + 1 = 2 := by omega
    have h2 : (65792 + (x0 % 2).toNat) % 256 = (x0 % 2).toNat := by omega
    rw [h1, h2]
    omega
  exact g.trans e

/-! ### The row -/
def zeroArgs : Array Value := #[.int .i64 0, .int .u32 0, .int .u32 0, .int .i64 0]
def zeroData {H : Type} : List (DataW H) := [.lit (.int .i64 0), .lit (.int .u32 0), .lit (.int .u32 0), .lit (.int .i64 0)]
theorem witness_row (os : Os) {H : Type} (enc : TypeId × Value → H) :
    (OpenSpec.ofChange Rows.runCallsSpec).preRow enc Tryz.prog Tryz.f3 Rows.runCallsRow.domain false Rows.runCallsRow.laid ((laidWorld os).forCall (fun _ _ => 0) ⟨#[], zeroArgs, []⟩).memory zeroArgs := by
  have hw : (DataW.whole enc Tryz.prog ((laidWorld os).forCall (fun _ _ => 0) ⟨#[], zeroArgs, []⟩).memory Tryz.f3.params.toList Rows.runCallsSpec.vars false zeroArgs.toList 8).map (fun x => (x.1, x.2.1)) =
      some (zeroData, []) := by kernel_rfl
  obtain ⟨⟨x1, x2, x3⟩, hx, hx1⟩ := Option.map_eq_some_iff.1 hw
  simp only [Prod.mk.injEq] at hx1
  obtain ⟨rfl, rfl⟩ := hx1
  exact OpenSpec.preRow_of_cond 8 hx (by kernel_rfl) (fun k hk => by cases hk) (by kernel_rfl) (laid_met os _)
theorem types_ok : ∀ t ∈ Tryz.f3.params.toList, Tryz.prog.readableRec t = true ∧ t < Tryz.prog.types.size := by
  rw [Tryz.params3]
  intro t ht
  have r3 : Tryz.prog.readableRec 3 = true := by kernel_rfl
  have r22 : Tryz.prog.readableRec 22 = true := by kernel_rfl
  have sz0 : Nat.ble 23 Tryz.prog.types.size = true := by kernel_rfl
  have sz : 23 ≤ Tryz.prog.types.size := Nat.le_of_ble_eq_true sz0
  have ht : t ∈ [3, 22, 22, 3] := ht
  simp only [List.mem_cons, List.mem_nil_iff, or_false] at ht
  rcases ht with rfl | rfl | rfl | rfl
  · exact ⟨r3, Nat.lt_of_lt_of_le (by decide) sz⟩
  · exact ⟨r22, Nat.lt_of_lt_of_le (by decide) sz⟩
  · exact ⟨r22, Nat.lt_of_lt_of_le (by decide) sz⟩
  · exact ⟨r3, Nat.lt_of_lt_of_le (by decide) sz⟩
set_option maxHeartbeats 2000000 in
theorem lifted (os : Os) (started : os.Started) (H : Type) (enc : TypeId × Value → H) (F : Stop.Interp) :
    ReturnsInHanded {} Tryz.checked os 3 .any ((OpenSpec.ofChange Rows.runCallsSpec).preRow enc Tryz.prog Tryz.f3 Rows.runCallsRow.domain false Rows.runCallsRow.laid) (((OpenSpec.ofChange Rows.runCallsSpec).at F).post enc Tryz.prog Tryz.f3 false true false false) := by
  refine returnsInHanded_of_row (C := Tryz.checked) (s := OpenSpec.ofChange Rows.runCallsSpec) own started (by kernel_rfl) Tryz.func3
    (witness_row_atRef (enc := enc) (C := Tryz.checked) false (laidWorld os) zeroArgs rfl (by kernel_rfl) (by kernel_rfl) (by kernel_rfl) (witness_row os enc)) ?_
  intro W base args ds gs before hval0 hW _ _ _ hL _ _
  have hval : ∀ (j : Nat) t v, Tryz.f3.params[j]? = some t → args[j]? = some v → Value.okWide Tryz.prog W .any base t v := hval0
  have hW' := hW
  obtain ⟨p, q, hA0, hV, rfl, hfz, hnd⟩ := hW
  have hA : DataW.TrodAll enc Tryz.prog W 0 (fun _ => true) true Tryz.f3.params.toList args.toList ds p := hA0
  have hAk := hA
  rw [Tryz.params3] at hA hval
  obtain ⟨v0, vs0, d0, ds0, p0, q0, hargs, rfl, rfl, h0, r0⟩ := trodAll_cons hA
  obtain ⟨v1, vs1, d1, ds1, p1, q1, rfl, rfl, rfl, h1, r1⟩ := trodAll_cons r0
  obtain ⟨v2, vs2, d2, ds2, p2, q2, rfl, rfl, rfl, h2, r2⟩ := trodAll_cons r1
  obtain ⟨v3, vs3, d3, ds3, p3, q3, rfl, rfl, rfl, h3, r3⟩ := trodAll_cons r2
  obtain ⟨rfl, rfl, rfl⟩ := trodAll_nil r3
  obtain rfl : args = #[v0, v1, v2, v3] := by cases args; simp_all
  obtain ⟨rfl, rfl⟩ := trodVars_none hV
  obtain ⟨x0, rfl, rfl, rfl, w0⟩ := open_int Tryz.underlying3 (hval 0 3 v0 rfl rfl) h0
  obtain ⟨x1, rfl, rfl, rfl, w1⟩ := open_int Tryz.underlying22 (hval 1 22 v1 rfl rfl) h1
  obtain ⟨x2, rfl, rfl, rfl, w2⟩ := open_int Tryz.underlying22 (hval 2 22 v2 rfl rfl) h2
  obtain ⟨x3, rfl, rfl, rfl, w3⟩ := open_int Tryz.underlying3 (hval 3 3 v3 rfl rfl) h3
  clear hA0 hval0
  simp only [List.append_nil] at hW' hAk
  refine (walk hL (wf_int w0) (wf_int w1) (wf_int w2) (wf_int w3)).mono fun e W' ⟨he, hg⟩ => ?_
  subst he
  exact ⟨_, rfl, law_post laidOut rfl types_ok hW' hAk (fun _ _ _ => (trodAll_cons_mk (shut_bool Tryz.underlying4 _) trodAll_mk0)) rfl rfl hg (ok_one (by kernel_rfl) rfl (okWide_bool_mk Tryz.underlying4 _))⟩
end Go.Proofs.YtfdmaafadphnfaaGreatDoor.runCalls
