/- Seat wat: the tables of instructions, and the numbers that are none. -/
import Derived.Test.YtglmbknbbfmhfaaGreatDoorWT
set_option maxRecDepth 100000
set_option linter.unusedVariables false
namespace Go.Proofs.YtglmbknbbfmhfaaGreatDoor
open Go Go.Ne
theorem hW_ro (p : Pos) (b : NB) (h : hW.rd p = some b) : isRo b = true := roHeap_ro _ _ p b h
theorem plain_run : ansB (callS (tabW S214 noO noO noO noO noO noO) 1000 20 205 [] hW) plainV = true := by kernel_rfl
theorem lanes_run : ansB (callS (tabW S214 noO noO noO noO noO noO) 1000 20 206 [] hW) lanesV = true := by kernel_rfl
def oPlain (l : List NV) : Option NV := match l with
  | [] => some plainV
  | _ => none
def oLanes (l : List NV) : Option NV := match l with
  | [] => some lanesV
  | _ => none
section
variable {w0 : World} {ρg : Rho}
theorem says_run {call : CallF} (hcall : CallOK cW w0 call) (G : HR w0 cW.ng ρg hW w0) {g : FuncId} {args : List NV} {v : NV} (hr : ansB (call g args hW) v = true) (ha : args.all scal = true) (hv : scal v = true) (h : H) : Says cW w0 g args h v h := by
  obtain ⟨h1, e⟩ := ansB_ok hr
  exact pure_call hcall G hW_ro e ha hv h
theorem tab0_ok (N f : Nat) : CallOK cW w0 (callS (tabW S214 noO noO noO noO noO noO) N f) := tab_ok (k214 w0) noO_ok noO_ok noO_ok noO_ok noO_ok noO_ok N f
theorem plain_says (G : HR w0 cW.ng ρg hW w0) : ∀ args v, oPlain args = some v → ∀ h, Says cW w0 205 args h v h := by
  intro args v hv h
  unfold oPlain at hv
  split at hv
  · cases hv; exact says_run (tab0_ok _ _) G plain_run rfl (by kernel_rfl) h
  · cases hv
theorem lanes_says (G : HR w0 cW.ng ρg hW w0) : ∀ args v, oLanes args = some v → ∀ h, Says cW w0 206 args h v h := by
  intro args v hv h
  unfold oLanes at hv
  split at hv
  · cases hv; exact says_run (tab0_ok _ _) G lanes_run rfl (by kernel_rfl) h
  · cases hv

/-- The numbers that are no instructions. -/
def gapB (n : Nat) : Bool := match Nat.ble 211 n with
  | false => false
  | true => match Nat.blt n 64512 with
    | true => true
    | false => match Nat.ble 64530 n with
      | false => false
      | true => Nat.blt n 64768
def oKnown (l : List NV) : Option NV := match l with
  | [.int .i64 (.ofNat n)] => match gapB n with
    | true => some (.bool false)
    | false => none
  | _ => none
theorem row_none (call : CallF) (N : Nat) (h : H) {n : Nat} (hn : gapB n = true) : S189 call N [.int .i64 (.ofNat n)] h = some (.str 0 0, h) := by
  have c1 : geI (.int .i64 (.ofNat n)) (.int .i64 (.ofNat 0)) = some (.bool true) := by
    show some (NV.bool (Nat.ble 0 n)) = _
    simp
  have lt : ∀ b : Nat, ltI (.int .i64 (.ofNat n)) (.int .i64 (.ofNat b)) = some (.bool (notB (Nat.ble b n))) := fun b => rfl
  have ge : ∀ b : Nat, geI (.int .i64 (.ofNat n)) (.int .i64 (.ofNat b)) = some (.bool (Nat.ble b n)) := fun b => rfl
  have z0 : Nat.ble 0 n = true := by simp
  unfold gapB at hn
  split at hn
  · cases hn
  · rename_i h211
    split at hn
    · rename_i h1
      have h1 : n < 64512 := by simpa using h1
      have b1 : Nat.ble 64512 n = false := by rw [← Bool.not_eq_true, Nat.ble_eq]; omega
      have b2 : Nat.ble 64768 n = false := by rw [← Bool.not_eq_true, Nat.ble_eq]; omega
      simp only [S189, uc_c, un_n, bK_s, jK_e, gK_tt, gK_ft, condK_f, pickO_t, pickO_f, lt, ge, h211, b1, b2, notB_t, retC, z0]
    · split at hn
      · cases hn
      · rename_i h1 _ h2
        have h3 : n < 64768 := by simpa using hn
        have h2' := Nat.le_of_ble_eq_true h2
        have b1 : Nat.ble 64512 n = true := Nat.ble_eq_true_of_le (by omega)
        have b2 : Nat.ble 64768 n = false := by rw [← Bool.not_eq_true, Nat.ble_eq]; omega
        simp only [S189, uc_c, un_n, bK_s, jK_e, gK_tt, gK_ft, condK_f, pickO_t, pickO_f, lt, ge, h211, b1, b2, h2, notB_t, retC, z0]
theorem known_says (G : HR w0 cW.ng ρg hW w0) : ∀ args v, oKnown args = some v → ∀ h, Says cW w0 168 args h v h := by
  intro args v hv h
  unfold oKnown at hv
  split at hv
  · rename_i n
    split at hv
    · rename_i hg
      cases hv
      refine pure_call (call := callS (tabW S214 noO noO noO noO noO noO) 1000 2) (tab0_ok _ _) G hW_ro (h1 := hW) ?_ rfl rfl h
      have t168 : getF (tabW S214 noO noO noO noO noO noO) (key 168) = some (orcS noO S168) := by kernel_rfl
      have t189 : getF (tabW S214 noO noO noO noO noO noO) (key 189) = some S189 := by kernel_rfl
      simp only [callS, t168, orcS, noO, S168, uc_c, un_n, mK_s, calM, t189, row_none _ _ _ hg]
      rfl
    · cases hv
  · cases hv

/-! ### All instructions: the numbers that are none are gone over at once -/
/-- Calls, where it is known of a number that it is none. -/
noncomputable def gapC (call : CallF) : CallF := fun g l h => Option.rec (motive := fun _ => R) (call g l h) (fun v => some (v, h)) (ite' (Nat.beq g 168) (oKnown l) none)
theorem gapC_ok (G : HR w0 cW.ng ρg hW w0) {call : CallF} (hcall : CallOK cW w0 call) : CallOK cW w0 (gapC call) := by
  intro ρ h w g args args' v h' r hv hc
  unfold gapC at hc
  cases hb : Nat.beq g 168 with
  | false => rw [hb] at hc; exact hcall ρ h w g args args' v h' r hv hc
  | true =>
    have := Nat.eq_of_beq_eq_true hb
    subst this
    rw [hb] at hc
    cases ho : oKnown args with
    | none => simp only [ite', ho] at hc; exact hcall ρ h w _ args args' v h' r hv hc
    | some u =>
      simp only [ite', ho, Option.some.injEq, Prod.mk.injEq] at hc
      obtain ⟨rfl, rfl⟩ := hc
      exact known_says G args _ ho h ρ w args' r hv
/-- One number. -/
noncomputable def bodyA (call : CallF) (i : Nat) (out : NV) (h : H) : R :=
  mK (calM call 168 [.int .i64 (.ofNat i)] h) fun v8 h9 => condK v8 (
    mK (bslM 1 false [(0, 1)] [(NV.int .i64 (.ofNat 0))] [.int .i64 (.ofNat i)] h9) fun v15 h16 => mK (appM Tryz.prog 3 out v15 h16) fun v17 h18 => some (v17, h18)) (some (out, h9))
noncomputable def segA (call : CallF) : Nat → Nat → NV → H → R
  | 0, _, out, h => some (out, h)
  | n + 1, i, out, h => mK (bodyA call i out h) fun out h => segA call n (Nat.succ i) out h
noncomputable def allS : SF := fun call _ l h => un l (mK (segA (gapC call) 211 0 .nslice h) fun out h => mK (segA (gapC call) 18 64512 out h) fun out h => mK (segA (gapC call) 256 64768 out h) fun out h => retC out h)
noncomputable def loopA (call : CallF) (N : Nat) : NF 2 := loopC N 2 (fun L6 v3 v4 h5 =>
 bK (ltI v4 (NV.int .i64 (.ofNat 65024))) fun v7 =>
 condK v7 (
 mK (calM call 168 [v4] h5) fun v8 h9 =>
 joinC 2 (fun v10 v11 h12 =>
 bK (addI v11 (NV.int .i64 (.ofNat 1))) fun v14 =>
 L6 v10 v14 h12) fun J13 =>
 condK v8 (
 mK (bslM 1 false [(0, 1)] [(NV.int .i64 (.ofNat 0))] [v4] h9) fun v15 h16 =>
 mK (appM Tryz.prog 3 v3 v15 h16) fun v17 h18 =>
 J13 v17 v4 h18) (
 J13 v3 v4 h9)) (
 retC v3 h5))
theorem s214_loop (call : CallF) (N : Nat) (h : H) : S214 call N [] h = loopA call N .nslice (.int .i64 (.ofNat 0)) h := rfl
theorem mK_mK (m : R) (f g : NV → H → R) : mK (mK m f) g = mK m fun v h => mK (f v h) g := by
  cases m with
  | none => rfl
  | some x => rfl
theorem mK_cond (v : NV) (a b : R) (g : NV → H → R) : mK (condK v a b) g = condK v (mK a g) (mK b g) := by
  cases v with
  | bool x => cases x <;> rfl
  | _ => rfl
theorem mK_congr {m : R} {f g : NV → H → R} (h : ∀ v h', f v h' = g v h') : mK m f = mK m g := by
  have : f = g := funext fun v => funext fun h' => h v h'
  rw [this]
theorem loopA_step (call : CallF) (N i : Nat) (hi : i < 65024) (out : NV) (h : H) : loopA call (N + 1) out (.int .i64 (.ofNat i)) h = mK (bodyA call i out h) fun out h => loopA call N out (.int .i64 (.ofNat (i + 1))) h := by
  have e1 : ltI (.int .i64 (.ofNat i)) (.int .i64 (.ofNat 65024)) = some (.bool (notB (Nat.ble 65024 i))) := rfl
  have e2 : Nat.ble 65024 i = false := by rw [← Bool.not_eq_true, Nat.ble_eq]; omega
  have e3 : addI (.int .i64 (.ofNat i)) (.int .i64 (.ofNat 1)) = some (.int .i64 (.ofNat (i + 1))) := by
    show some (addZ .i64 (.ofNat i) (.ofNat 1)) = _
    show some (mkF .i64 (.ofNat (i + 1))) = _
    have e4 : Nat.ble (i + 1) 9223372036854775807 = true := Nat.ble_eq_true_of_le (by omega)
    show some (ite' (Nat.ble (i + 1) 9223372036854775807) (force (i + 1) fun m => NV.int .i64 (.ofNat m)) (mkInt .i64 (.ofNat (i + 1)))) = _
    rw [e4, force_eq]
    rfl
  have e5 : loopA call (N + 1) out (.int .i64 (.ofNat i)) h = bK (ltI (.int .i64 (.ofNat i)) (.int .i64 (.ofNat 65024))) fun v7 => condK v7 (mK (calM call 168 [.int .i64 (.ofNat i)] h) fun v8 h9 => condK v8 (
      mK (bslM 1 false [(0, 1)] [(NV.int .i64 (.ofNat 0))] [.int .i64 (.ofNat i)] h9) fun v15 h16 => mK (appM Tryz.prog 3 out v15 h16) fun v17 h18 => bK (addI (.int .i64 (.ofNat i)) (.int .i64 (.ofNat 1))) fun v14 => loopA call N v17 v14 h18)
      (bK (addI (.int .i64 (.ofNat i)) (.int .i64 (.ofNat 1))) fun v14 => loopA call N out v14 h9)) (retC out h) := rfl
  rw [e5, e1, e2, bK_s, notB_f, condK_t]
  simp only [e3, bK_s, bodyA, mK_mK, mK_cond, mK_s]
theorem loopA_seg (call : CallF) (N : Nat) : ∀ (n i : Nat), i + n ≤ 65024 → ∀ (out : NV) (h : H), loopA call (N + n) out (.int .i64 (.ofNat i)) h = mK (segA call n i out h) fun out h => loopA call N out (.int .i64 (.ofNat (i + n))) h
  | 0, i, hi, out, h => rfl
  | n + 1, i, hi, out, h => by
    rw [show N + (n + 1) = (N + n) + 1 by omega, loopA_step call _ i (by omega)]
    simp only [segA, mK_mK]
    refine mK_congr fun out h => ?_
    rw [loopA_seg call N n (i + 1) (by omega), show i + 1 + n = i + (n + 1) by omega]
theorem bodyA_gap (call : CallF) {i : Nat} (hg : gapB i = true) (out : NV) (h : H) : bodyA (gapC call) i out h = some (out, h) := by
  have : gapC call 168 [.int .i64 (.ofNat i)] h = some (.bool false, h) := by
    have e : oKnown [.int .i64 (.ofNat i)] = some (.bool false) := by simp only [oKnown, hg]
    show Option.rec (motive := fun _ => R) (call 168 [.int .i64 (.ofNat i)] h) (fun v => some (v, h)) (oKnown [.int .i64 (.ofNat i)]) = _
    rw [e]
  simp only [bodyA, calM, this, mK_s, condK_f]
theorem segA_gap (call : CallF) : ∀ (n i : Nat), (∀ j, i ≤ j → j < i + n → gapB j = true) → ∀ (out : NV) (h : H), segA (gapC call) n i out h = some (out, h)
  | 0, i, hg, out, h => rfl
  | n + 1, i, hg, out, h => by
    simp only [segA, bodyA_gap call (hg i (Nat.le_refl _) (by omega)), mK_s]
    exact segA_gap call n (i + 1) (fun j h1 h2 => hg j (by omega) (by omega)) out h
theorem gap1 (j : Nat) (h1 : 211 ≤ j) (h2 : j < 64512) : gapB j = true := by
  have e1 : Nat.ble 211 j = true := Nat.ble_eq_true_of_le h1
  have e2 : Nat.blt j 64512 = true := Nat.ble_eq_true_of_le h2
  simp only [gapB, e1, e2]
theorem gap2 (j : Nat) (h1 : 64530 ≤ j) (h2 : j < 64768) : gapB j = true := by
  have e1 : Nat.ble 211 j = true := Nat.ble_eq_true_of_le (by omega)
  have e2 : Nat.blt j 64512 = false := by rw [← Bool.not_eq_true, Nat.blt_eq]; omega
  have e3 : Nat.ble 64530 j = true := Nat.ble_eq_true_of_le h1
  have e4 : Nat.blt j 64768 = true := Nat.ble_eq_true_of_le h2
  simp only [gapB, e1, e2, e3, e4]
theorem all_eq (call : CallF) (N : Nat) (h : H) : allS call N [] h = S214 (gapC call) 65025 [] h := by
  rw [s214_loop, show 65025 = 64814 + 211 by rfl, loopA_seg (gapC call) 64814 211 0 (by omega)]
  unfold allS
  rw [un_n]
  refine mK_congr fun out h => ?_
  rw [show 64814 = 513 + 64301 by rfl, loopA_seg (gapC call) 513 64301 (0 + 211) (by omega), segA_gap call 64301 (0 + 211) (fun j h1 h2 => gap1 j (by omega) (by omega)), mK_s]
  rw [show 513 = 495 + 18 by rfl, loopA_seg (gapC call) 495 18 (0 + 211 + 64301) (by omega)]
  refine mK_congr fun out h => ?_
  rw [show 495 = 257 + 238 by rfl, loopA_seg (gapC call) 257 238 (0 + 211 + 64301 + 18) (by omega), segA_gap call 238 (0 + 211 + 64301 + 18) (fun j h1 h2 => gap2 j (by omega) (by omega)), mK_s]
  rw [show 257 = 1 + 256 by rfl, loopA_seg (gapC call) 1 256 (0 + 211 + 64301 + 18 + 238) (by omega)]
  rfl
theorem all_ok (G : HR w0 cW.ng ρg hW w0) : SOK cW w0 214 allS := by
  intro call N hcall args h v h' hr
  cases args with
  | cons a l => cases hr
  | nil =>
    rw [all_eq] at hr
    exact k214 w0 (gapC call) 65025 (gapC_ok G hcall) [] h v h' hr
end
end Go.Proofs.YtglmbknbbfmhfaaGreatDoor

