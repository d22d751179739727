/- Seat instnone: weigh: whatever the instructions, it answers a number, not above what it was given. -/
import Derived.Test.YtoikhmpgaihiaaaGreatDoorIT
import Derived.Test.YtoikhmpgaihiaaaGreatDoorShC
set_option maxRecDepth 100000
set_option linter.unusedVariables false
set_option linter.unusedSectionVars false
namespace Go.Proofs.YtoikhmpgaihiaaaGreatDoor
open Go Go.Ne
/-- A slice whose length alone is asked. -/
inductive LS : NV → Nat → Prop
  | nil : LS .nslice 0
  | any (m : Nat) (h : m ≤ 9223372036854775807) : LS (.anys none (.ofNat m) (.ofNat m)) m
theorem sym_gt [Sig] {m c : Nat} : symO .gtr (.sint .i64 none (.ofNat m) (.ofNat m)) (.int .i64 (.ofNat c)) = some (.bool (decide (c < m))) := by
  show sureB (lessI (.ofNat c) (.ofNat m)) (intBle (.ofNat m) (.ofNat c)) = _
  by_cases h : c < m
  · have : lessI (.ofNat c) (.ofNat m) = true := lessI_iff.2 (Int.ofNat_lt.2 h)
    rw [this]; simp [sureB, h]
  · have h1 : lessI (.ofNat c) (.ofNat m) = false := by rw [← Bool.not_eq_true, lessI_iff]; intro e; exact h (Int.ofNat_lt.1 e)
    have h2 : intBle (.ofNat m) (.ofNat c) = true := intBle_iff.2 (Int.ofNat_le.2 (by omega))
    rw [h1, h2]; simp [sureB, h]
theorem sym_le [Sig] {m c : Nat} : symO .leq (.sint .i64 none (.ofNat m) (.ofNat m)) (.int .i64 (.ofNat c)) = some (.bool (decide (m ≤ c))) := by
  show sureB (intBle (.ofNat m) (.ofNat c)) (lessI (.ofNat c) (.ofNat m)) = _
  by_cases h : m ≤ c
  · have : intBle (.ofNat m) (.ofNat c) = true := intBle_iff.2 (Int.ofNat_le.2 h)
    rw [this]; simp [sureB, h]
  · have h2 : intBle (.ofNat m) (.ofNat c) = false := by rw [← Bool.not_eq_true, intBle_iff]; intro e; exact h (Int.ofNat_le.1 e)
    have h1 : lessI (.ofNat c) (.ofNat m) = true := lessI_iff.2 (Int.ofNat_lt.2 (by omega))
    rw [h1, h2]; simp [sureB, h]
theorem LS.len [Sig] {x : NV} {m : Nat} (h : LS x m) : ∃ v, lenSl x = some v ∧ (∀ c : Nat, gtI v (.int .i64 (.ofNat c)) = some (.bool (decide (c < m)))) ∧ ∀ c : Nat, leI v (.int .i64 (.ofNat c)) = some (.bool (decide (m ≤ c))) := by
  cases h with
  | nil => exact ⟨.int .i64 0, rfl, fun c => by rw [gtI_i]; congr 2, fun c => by rw [leI_i]; congr 2⟩
  | any _ h => exact ⟨_, rfl, fun c => sym_gt, fun c => sym_le⟩
/-- A slice of instructions. -/
inductive WS : NV → Prop
  | nil : WS .nslice
  | none : WS (.anys none (.ofNat 0) (.ofNat 0))
  | some (k n : Nat) (cs : List NV) (l b e : Nat → NV) (m : Nat → Nat) (h0 : 0 < n) (hn : n ≤ 9223372036854775807) (hl : ∀ i, i < n → nth cs (i * 9 + 5) = some (l i) ∧ nth cs (i * 9 + 6) = some (b i) ∧ nth cs (i * 9 + 7) = some (e i))
      (hm : ∀ i, i < n → LS (l i) (m i)) (hb : ∀ i, i < n → WS (b i)) (he : ∀ i, i < n → WS (e i)) : WS (.fsl k n cs)
section
variable {o4 o5 : List NV → Option NV}
theorem t22 : getF (tabW o4 o5) (key 22) = some S22 := by kernel_rfl
theorem call22 (f : Nat) (l : List NV) (h : H) : callS (tabW o4 o5) 100000 (f + 1) 22 l h = S22 (callS (tabW o4 o5) 100000 f) 100000 l h := by
  show Option.rec (motive := fun _ => R) none (fun s => s (callS (tabW o4 o5) 100000 f) 100000 l h) (getF (tabW o4 o5) (key 22)) = _
  rw [t22]
end
theorem add1 {i : Nat} (h : i < 9223372036854775807) : addI (.int .i64 (i : Int)) (.int .i64 (.ofNat 1)) = some (.int .i64 ((i + 1 : Nat) : Int)) := by
  have e := addI_i (a := i) (b := 1) (by omega) (by omega)
  exact e
theorem sub1 {a : Int} (h : -9223372036854775807 ≤ a) (h2 : a ≤ 9223372036854775807) : subI (.int .i64 a) (.int .i64 (.ofNat 1)) = some (.int .i64 (a - 1)) := by
  have e := subI_i (a := a) (b := 1) (by omega) (by omega)
  exact e
noncomputable def wL (call : CallF) (N : Nat) (J9 : NF 1) : NF 4 → NF 4 :=  fun L15 v10 v11 v12 v13 h14 =>
 bK (lenSl v10) fun v16 =>
 bK (ltI v13 v16) fun v17 =>
 jK (fun v18 h19 =>
 jK (fun v21 h22 =>
 bK (pickO v17 v21 (NV.bool false)) fun v24 =>
 condK v24 (
 bK (ixS 9 v10 v13) fun v25 =>
 bK (fAddr 6 v25) fun v26 =>
 bK (ldO 1 false h22 v26) fun v27 =>
 bK (addI v11 (NV.int .i64 (.ofNat 1))) fun v28 =>
 bK (subI v12 (NV.int .i64 (.ofNat 1))) fun v29 =>
 mK (calM call 22 [v27, v28, v29] h22) fun v30 h31 =>
 bK (geI v30 (NV.int .i64 (.ofNat 0))) fun v32 =>
 joinC 4 (fun v33 v34 v35 v36 h37 =>
 bK (ixS 9 v33 v36) fun v39 =>
 bK (fAddr 5 v39) fun v40 =>
 bK (ldO 1 false h37 v40) fun v41 =>
 bK (lenSl v41) fun v42 =>
 bK (gtI v42 (NV.int .i64 (.ofNat 1000))) fun v43 =>
 joinC 4 (fun v44 v45 v46 v47 h48 =>
 bK (addI v47 (NV.int .i64 (.ofNat 1))) fun v50 =>
 L15 v44 v45 v46 v50 h48) fun J49 =>
 condK v43 (
 J49 v33 v34 (NV.int .i64 (.negSucc 0)) v36 h37) (
 J49 v33 v34 v35 v36 h37)) fun J38 =>
 condK v32 (
 bK (ixS 9 v10 v13) fun v51 =>
 bK (fAddr 7 v51) fun v52 =>
 bK (ldO 1 false h31 v52) fun v53 =>
 bK (addI v11 (NV.int .i64 (.ofNat 1))) fun v54 =>
 mK (calM call 22 [v53, v54, v30] h31) fun v55 h56 =>
 J38 v10 v11 v55 v13 h56) (
 J38 v10 v11 v30 v13 h31)) (
 J9 v12 h22)) fun J23 => gK v17 true (
 bK (geI v18 (NV.int .i64 (.ofNat 0))) fun v57 =>
 J23 v57 h19) (J23 (NV.tuple []) h19)) fun J20 => gK v17 true (
 J20 v12 h14) (J20 (NV.tuple []) h14)
theorem S22_eq (call : CallF) (N : Nat) (h : H) (x d l : NV) : S22 call N [x, d, l] h = bK (gtI d (NV.int .i64 (.ofNat 600))) fun v6 => condK v6 (retC (NV.int .i64 (.negSucc 0)) h) (loopC N 4 (wL call N (fun v7 h8 => retC v7 h8)) x d l (.int .i64 (.ofNat 0)) h) := rfl
theorem loop_s (n : Nat) (F : NF n → NF n) (m : Nat) : loopC (m + 1) n F = F (loopC m n F) := rfl
section
variable [Sig]
theorem weigh_ok {o4 o5 : List NV → Option NV} {x : NV} (hx : WS x) : ∀ (f depth : Nat) (left : Int) (h : H), 602 ≤ f + depth → depth ≤ 601 → -1 ≤ left → left ≤ 3000 →
    ∃ r : Int, callS (tabW o4 o5) 100000 f 22 [x, .int .i64 depth, .int .i64 left] h = some (.int .i64 r, h) ∧ -1 ≤ r ∧ r ≤ left := by
  induction hx with
  | nil =>
    intro f depth left h hf hd h1 h2
    obtain ⟨f, rfl⟩ : ∃ k, f = k + 1 := ⟨f - 1, by omega⟩
    rw [call22, S22_eq, gtI_i, bK_s]
    by_cases hdep : (Int.ofNat 600 < (depth : Int))
    · rw [decide_eq_true hdep]
      exact ⟨-1, rfl, by omega, h1⟩
    · rw [decide_eq_false hdep]
      exact ⟨left, rfl, h1, Int.le_refl _⟩
  | none =>
    intro f depth left h hf hd h1 h2
    obtain ⟨f, rfl⟩ : ∃ k, f = k + 1 := ⟨f - 1, by omega⟩
    rw [call22, S22_eq, gtI_i, bK_s]
    by_cases hdep : (Int.ofNat 600 < (depth : Int))
    · rw [decide_eq_true hdep]
      exact ⟨-1, rfl, by omega, h1⟩
    · rw [decide_eq_false hdep]
      exact ⟨left, rfl, h1, Int.le_refl _⟩
  | some k n cs l b e m h0 hn hl hm hb he ihb ihe =>
    intro f depth left h hf hd h1 h2
    obtain ⟨f, rfl⟩ : ∃ k, f = k + 1 := ⟨f - 1, by omega⟩
    rw [call22, S22_eq, gtI_i, bK_s]
    by_cases hdep : (Int.ofNat 600 < (depth : Int))
    · rw [decide_eq_true hdep]
      exact ⟨-1, rfl, by omega, h1⟩
    · rw [decide_eq_false hdep, condK_f]
      have hdep : depth ≤ 600 := by have : ¬ (600 : Int) < depth := hdep; omega
      have loop : ∀ (M i : Nat) (left : Int), left + 2 ≤ M → -1 ≤ left → left ≤ 3000 → ∃ r : Int, loopC M 4 (wL (callS (tabW o4 o5) 100000 f) 100000 (fun v7 h8 => retC v7 h8)) (.fsl k n cs) (.int .i64 depth) (.int .i64 left) (.int .i64 (i : Int)) h = some (.int .i64 r, h) ∧ -1 ≤ r ∧ r ≤ left := by
        intro M
        induction M with
        | zero => intro i left hM; omega
        | succ M ih =>
          intro i left hM hl1 hl2
          rw [loop_s]
          unfold wL
          simp only [lenSl_fsl, bK_s, ltI_i, geI_i, jK_e, joinC]
          by_cases hi : (i : Int) < (n : Int)
          · have hi' : i < n := by omega
            rw [decide_eq_true hi]
            simp only [gK_tt, pickO_t, bK_s]
            by_cases hneg : (Int.ofNat 0 ≤ left)
            · rw [decide_eq_true hneg]
              have hneg : 0 ≤ left := hneg
              obtain ⟨g5, g6, g7⟩ := hl i hi'
              obtain ⟨r1, q1, q2, q3⟩ := ihb i hi' f (depth + 1) (left - 1) h (by omega) (by omega) (by omega) (by omega)
              have e1 := add1 (i := depth) (by omega)
              have e2 := add1 (i := i) (by omega)
              have e3 := sub1 (a := left) (by omega) (by omega)
              obtain ⟨v, w1, w2, _⟩ := (hm i hi').len
              simp only [condK_t, ixS_fsl hi', bK_s, fAddr_fptr, ldO_fptr, g6, e1, e3, calM, q1, mK_s, geI_i]
              by_cases hr1 : (Int.ofNat 0 ≤ r1)
              · rw [decide_eq_true hr1]
                have hr1 : 0 ≤ r1 := hr1
                obtain ⟨r2, p1, p2, p3⟩ := ihe i hi' f (depth + 1) r1 h (by omega) (by omega) (by omega) (by omega)
                simp only [condK_t, bK_s, g7, p1, mK_s, g5, w1, w2, e2]
                by_cases hk : 1000 < m i
                · rw [decide_eq_true hk]
                  obtain ⟨r, z1, z2, z3⟩ := ih (i + 1) (-1) (by omega) (by omega) (by omega)
                  exact ⟨r, z1, z2, by omega⟩
                · rw [decide_eq_false hk]
                  obtain ⟨r, z1, z2, z3⟩ := ih (i + 1) r2 (by omega) (by omega) (by omega)
                  exact ⟨r, z1, z2, by omega⟩
              · rw [decide_eq_false hr1]
                have hr1 : ¬ (0 : Int) ≤ r1 := hr1
                simp only [condK_f, bK_s, g5, w1, w2, e2]
                by_cases hk : 1000 < m i
                · rw [decide_eq_true hk]
                  obtain ⟨r, z1, z2, z3⟩ := ih (i + 1) (-1) (by omega) (by omega) (by omega)
                  exact ⟨r, z1, z2, by omega⟩
                · rw [decide_eq_false hk]
                  obtain ⟨r, z1, z2, z3⟩ := ih (i + 1) r1 (by omega) (by omega) (by omega)
                  exact ⟨r, z1, z2, by omega⟩
            · rw [decide_eq_false hneg]
              exact ⟨left, rfl, hl1, Int.le_refl _⟩
          · rw [decide_eq_false hi]
            exact ⟨left, rfl, hl1, Int.le_refl _⟩
      exact loop 100000 0 left (by omega) h1 h2
end
end Go.Proofs.YtoikhmpgaihiaaaGreatDoor
