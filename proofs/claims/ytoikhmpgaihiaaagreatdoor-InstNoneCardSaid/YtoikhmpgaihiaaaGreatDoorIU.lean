/- Seat instnone: the contract of bodkinref09.Fits; the law's runs. -/
import Derived.Test.YtoikhmpgaihiaaaGreatDoorIV
import Derived.Test.YtoikhmpgaihiaaaGreatDoorI1
set_option maxRecDepth 100000
set_option linter.unusedVariables false
set_option linter.unusedSectionVars false
namespace Go.Proofs.YtoikhmpgaihiaaaGreatDoor
open Go Go.Ne
theorem t9 {o4 o5 : List NV → Option NV} : getF (tabW o4 o5) (key 9) = some S9 := by kernel_rfl
theorem t5 {o4 o5 : List NV → Option NV} : getF (tabW o4 o5) (key 5) = some (orcS o5 S5) := by kernel_rfl
def mmOf (x : Nat → NV) : NV := .agg [x 0, x 1, x 2, x 3, x 4, x 5, x 6, .bad, x 8, x 9, .bad]
theorem box_ok (x : Nat → NV) (h0 : H) : ∃ p h, boxM false (mmOf x) h0 = some (p, h) ∧ ∀ k, k < 10 → k ≠ 7 → At p h k (x k) := by
  refine ⟨.ptr h0.next 0, allocF h0 (.cells [x 0, x 1, x 2, x 3, x 4, x 5, x 6, .bad, x 8, x 9, .bad]), rfl, fun k hk h7 => ⟨.ptr h0.next (0 + k), rfl, ?_⟩⟩
  show Option.rec (motive := fun _ => Option NV) none (fun b => ite' false (Option.rec (motive := fun _ => Option NV) none (fun l => some (.agg l)) (cellsF b (0 + k) 1)) (cellF b (0 + k))) (rdF (allocF h0 (.cells [x 0, x 1, x 2, x 3, x 4, x 5, x 6, .bad, x 8, x 9, .bad])) h0.next) = some (x k)
  rw [rdF_eq, allocF_eq, H.rd_alloc, if_pos rfl]
  rcases (show k = 0 ∨ k = 1 ∨ k = 2 ∨ k = 3 ∨ k = 4 ∨ k = 5 ∨ k = 6 ∨ k = 8 ∨ k = 9 by omega) with rfl | rfl | rfl | rfl | rfl | rfl | rfl | rfl | rfl <;> rfl
section
variable [Sig]
theorem few_ok {x : NV} (hx : WS x) (h : H) : ∃ b, callS (tabW noO noO) 100000 699 9 [x] h = some (.bool b, h) := by
  obtain ⟨r, e, _, _⟩ := weigh_ok (o4 := noO) (o5 := noO) hx 698 0 3000 h (by omega) (by omega) (by omega) (by omega)
  have e2 : callS (tabW noO noO) 100000 699 9 [x] h = S9 (callS (tabW noO noO) 100000 698) 100000 [x] h := by
    show Option.rec (motive := fun _ => R) none (fun s => s (callS (tabW noO noO) 100000 698) 100000 [x] h) (getF (tabW noO noO) (key 9)) = _
    rw [t9]
  have e3 : callS (tabW noO noO) 100000 698 22 [x, .int .i64 (.ofNat 0), .int .i64 (.ofNat 3000)] h = some (.int .i64 r, h) := e
  refine ⟨decide (Int.ofNat 0 ≤ r), ?_⟩
  rw [e2]
  simp only [S9, uc_c, un_n, calM, e3, mK_s, geI_i, bK_s]
  rfl
theorem fits_run {x : Nat → NV} {n : Nat → Nat} (hx : MS x n) : ∃ b h1, callS (tabW noO noO) 100000 700 5 [mmOf x] hW = some (.bool b, h1) := by
  obtain ⟨p, h, hbox, hp⟩ := box_ok x hW
  obtain ⟨b, e⟩ := fits_ok (call := callS (tabW noO noO) 100000 699) hbox hx hp fun x hx => few_ok hx h
  refine ⟨b, h, ?_⟩
  have e2 : callS (tabW noO noO) 100000 700 5 [mmOf x] hW = S5 (callS (tabW noO noO) 100000 699) 100000 [mmOf x] hW := by
    show Option.rec (motive := fun _ => R) none (fun s => s (callS (tabW noO noO) 100000 699) 100000 [mmOf x] hW) (getF (tabW noO noO) (key 5)) = _
    rw [t5]
    rfl
  rw [e2, e]
def mA : NV := .agg [.opq 1, .opq 2, .opq 3, .opq 4, .opq 5, .opq 6, .opq 7, .opq 8, .opq 9, .opq 10, .opq 11]
theorem opq_inv {ρ : Rho} {i : Nat} {v : Value} (h : VR ρ (.opq i) v) : v = Sig.val i := by cases h; rfl
theorem vrl_opq {ρ : Rho} {i : Nat} {l : List NV} {l' : List Value} (h : VRL ρ (.opq i :: l) l') : ∃ r, l' = Sig.val i :: r ∧ VRL ρ l r := by
  cases h with
  | cons _ v' _ r h1 h2 => exact ⟨r, by rw [opq_inv h1], h2⟩
theorem vrl_nil {ρ : Rho} {l' : List Value} (h : VRL ρ [] l') : l' = [] := by cases h; rfl
theorem mA_inv {ρ : Rho} {args' : List Value} (h : VRL ρ [mA] args') : args' = [.agg [Sig.val 1, Sig.val 2, Sig.val 3, Sig.val 4, Sig.val 5, Sig.val 6, Sig.val 7, Sig.val 8, Sig.val 9, Sig.val 10, Sig.val 11].toArray] := by
  cases h with
  | cons _ v' _ r h1 h2 =>
    rw [vrl_nil h2]
    unfold mA at h1
    cases h1 with
    | agg _ l' h =>
      obtain ⟨l1, rfl, g1⟩ := vrl_opq h
      obtain ⟨l2, rfl, g2⟩ := vrl_opq g1
      obtain ⟨l3, rfl, g3⟩ := vrl_opq g2
      obtain ⟨l4, rfl, g4⟩ := vrl_opq g3
      obtain ⟨l5, rfl, g5⟩ := vrl_opq g4
      obtain ⟨l6, rfl, g6⟩ := vrl_opq g5
      obtain ⟨l7, rfl, g7⟩ := vrl_opq g6
      obtain ⟨l8, rfl, g8⟩ := vrl_opq g7
      obtain ⟨l9, rfl, g9⟩ := vrl_opq g8
      obtain ⟨l10, rfl, g10⟩ := vrl_opq g9
      obtain ⟨l11, rfl, g11⟩ := vrl_opq g10
      rw [vrl_nil g11]
/-- Fits, of what the caller gave: some bool, the same at each call. -/
theorem fits_says {W : World} {ρg : Rho} (G : HR W cW.ng ρg hW W) {x : Nat → NV} {n : Nat → Nat} (hx : MS x n) (hv : ∀ k, k < 10 → k ≠ 7 → VR ρg (x k) (Sig.val (k + 1))) : ∃ b, ∀ h, Says cW W 5 [mA] h (.bool b) h := by
  obtain ⟨b, h1, e⟩ := fits_run hx
  refine ⟨b, fun h => pure_call2 (tab_ok noO_ok noO_ok 100000 700) G hW_ro e (fun ρ args' ha => ?_) rfl h⟩
  rw [mA_inv ha]
  exact .cons _ _ _ _ (.agg _ _ (.cons _ _ _ _ (hv 0 (by decide) (by decide)) (.cons _ _ _ _ (hv 1 (by decide) (by decide)) (.cons _ _ _ _ (hv 2 (by decide) (by decide)) (.cons _ _ _ _ (hv 3 (by decide) (by decide)) (.cons _ _ _ _ (hv 4 (by decide) (by decide)) (.cons _ _ _ _ (hv 5 (by decide) (by decide)) (.cons _ _ _ _ (hv 6 (by decide) (by decide)) (.cons _ _ _ _ (.bad _) (.cons _ _ _ _ (hv 8 (by decide) (by decide)) (.cons _ _ _ _ (hv 9 (by decide) (by decide)) (.cons _ _ _ _ (.bad _) .nil)))))))))))) .nil
def fitT (b : Bool) : List (List NV × NV) := [([mA], .bool b)]
noncomputable def tab5 (b : Bool) : Ne.PT SF := tabW (oL awakeT) (oL (fitT b))
theorem tab5_ok {W : World} {ρg : Rho} (G : HR W cW.ng ρg hW W) {b : Bool} (hb : ∀ h, Says cW W 5 [mA] h (.bool b) h) (N f : Nat) : CallOK cW W (callS (tab5 b) N f) :=
  tab_ok (awake_says G) (oL_ok fun y hy h => by
    simp only [fitT, List.mem_cons, List.mem_nil_iff, or_false] at hy
    subst hy
    exact hb h) N f
def atL : List NV := [.sint .i64 (some 3) (.negSucc 9223372036854775807) (.negSucc 0), .sint .i64 (some 3) (.ofNat 0) (.ofNat 9223372036854775807)]
end
theorem run_tn : ansB (callS (tab5 true) 100000 60 3 [mA, .sint .i64 (some 3) (.negSucc 9223372036854775807) (.negSucc 0), .opq 0] hW) (.bool true) = true := by kernel_rfl
theorem run_tp : ansB (callS (tab5 true) 100000 60 3 [mA, .sint .i64 (some 3) (.ofNat 0) (.ofNat 9223372036854775807), .opq 0] hW) (.bool true) = true := by kernel_rfl
theorem run_fn : ansB (callS (tab5 false) 100000 60 3 [mA, .sint .i64 (some 3) (.negSucc 9223372036854775807) (.negSucc 0), .opq 0] hW) (.bool true) = true := by kernel_rfl
theorem run_fp : ansB (callS (tab5 false) 100000 60 3 [mA, .sint .i64 (some 3) (.ofNat 0) (.ofNat 9223372036854775807), .opq 0] hW) (.bool true) = true := by kernel_rfl
theorem one_run [Sig] {x : NV} (hx : x ∈ atL) (b : Bool) : ∃ h1, callS (tab5 b) 100000 60 3 [mA, x, .opq 0] hW = some (.bool true, h1) := by
  simp only [atL, List.mem_cons, List.mem_nil_iff, or_false] at hx
  cases b
  · rcases hx with rfl | rfl
    · exact ansB_ok run_fn
    · exact ansB_ok run_fp
  · rcases hx with rfl | rfl
    · exact ansB_ok run_tn
    · exact ansB_ok run_tp
end Go.Proofs.YtoikhmpgaihiaaaGreatDoor
