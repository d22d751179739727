/- Seat instnone: what the caller gave as a module. -/
import Derived.Test.YtoikhmpgaihiaaaGreatDoorIZ
import Derived.Test.YtoikhmpgaihiaaaGreatDoorShC
set_option maxRecDepth 100000
set_option linter.unusedVariables false
set_option linter.unusedSectionVars false
namespace Go.Proofs.YtoikhmpgaihiaaaGreatDoor
open Go Go.Ne Go.ChangeShapes Go.WideShapes Go.ChangeAt Go.RowKit
theorem cn56 : Tryz.prog.cellsOf 56 = 1 := by kernel_rfl
theorem cn63 : Tryz.prog.cellsOf 63 = 1 := by kernel_rfl
theorem cn87 : Tryz.prog.cellsOf 87 = 1 := by kernel_rfl
theorem cn66 : Tryz.prog.cellsOf 66 = 1 := by kernel_rfl
theorem cn9 : Tryz.prog.cellsOf 9 = 1 := by kernel_rfl
theorem cn65 : Tryz.prog.cellsOf 65 = 9 := by kernel_rfl
theorem cn58 : Tryz.prog.cellsOf 58 = 2 := by kernel_rfl
theorem cn81 : Tryz.prog.cellsOf 81 = 13 := by kernel_rfl
theorem cn84 : Tryz.prog.cellsOf 84 = 3 := by kernel_rfl
theorem cn86 : Tryz.prog.cellsOf 86 = 3 := by kernel_rfl
theorem cn70 : Tryz.prog.cellsOf 70 = 3 := by kernel_rfl
theorem cn89 : Tryz.prog.cellsOf 89 = 5 := by kernel_rfl
theorem cn68 : Tryz.prog.cellsOf 68 = 4 := by kernel_rfl
theorem cn32 : Tryz.prog.cellsOf 32 = 11 := by kernel_rfl
def PT (k : Nat) (v : NV) : Prop := ∃ m, LS v m
def PI (k : Nat) (v : NV) : Prop := k = 0 ∨ k = 1 → ST v
def PX (k : Nat) (v : NV) : Prop := k = 0 → ST v
def PF (k : Nat) (v : NV) : Prop := (k = 2 → WS v) ∧ (k = 1 → ∃ m, LS v m)
def PG (k : Nat) (v : NV) : Prop := k = 2 → WS v
def PD (k : Nat) (v : NV) : Prop := (k = 2 → WS v) ∧ (k = 3 → ∃ m, LS v m)
def PW (k : Nat) (v : NV) : Prop := (k = 5 → ∃ m, LS v m) ∧ (k = 6 → WS v) ∧ (k = 7 → WS v)
def PE (k : Nat) (v : NV) : Prop := (k = 3 → WS v) ∧ (k = 4 → ∃ m, FS 1 QW v m)
section
variable [Sig] {H : Type} {enc : TypeId × Value → H} {W : World} {base : Nat} {sp : Nat → Bool} {held : Bool}
theorem ls_of {t e : TypeId} {fuel : Nat} (ht : Tryz.prog.underlying t = some (.slice e)) {s : Value} {y : DataW H × List MemPlace} (h : DataW.trod enc Tryz.prog W base sp held fuel t [s] = some y) : ∃ v, (∃ m, LS v m) ∧ ∀ ρ, VR ρ v s := by
  obtain ⟨m, hm, hv⟩ := ls_make ht h
  exact ⟨_, ⟨m, .any m hm⟩, hv⟩
theorem st_of {t : TypeId} {fuel : Nat} (ht : Tryz.prog.underlying t = some .string) {s : Value} {y : DataW H × List MemPlace} (h : DataW.trod enc Tryz.prog W base sp held fuel t [s] = some y) : ∃ v, ST v ∧ ∀ ρ, VR ρ v s := by
  obtain ⟨b, e, _⟩ := DataW.trod_string ht h
  cases e
  exact ⟨_, ⟨_, _, rfl⟩, fun ρ => .str b⟩
/-- A list of cells' properties as a function. -/
theorem ws_of_fsp {x : NV} {n : Nat} (h : FSP 9 PW x n) : WS x := by
  cases h with
  | zero => exact .none
  | more k n cs h0 hn hq =>
    have g : ∀ i j, i < n → j < 9 → nth cs (i * 9 + j) = some ((nth cs (i * 9 + j)).getD .bad) ∧ PW j ((nth cs (i * 9 + j)).getD .bad) := by
      intro i j hi hj
      obtain ⟨v, e, p⟩ := hq i j hi hj
      rw [e]
      exact ⟨rfl, p⟩
    have hm : ∀ i, ∃ m, i < n → LS ((nth cs (i * 9 + 5)).getD .bad) m := by
      intro i
      by_cases hi : i < n
      · obtain ⟨m, hm⟩ := (g i 5 hi (by omega)).2.1 rfl
        exact ⟨m, fun _ => hm⟩
      · exact ⟨0, fun h => absurd h hi⟩
    exact .some k n cs (fun i => (nth cs (i * 9 + 5)).getD .bad) (fun i => (nth cs (i * 9 + 6)).getD .bad) (fun i => (nth cs (i * 9 + 7)).getD .bad) (fun i => (hm i).choose) h0 hn
      (fun i hi => ⟨(g i 5 hi (by omega)).1, (g i 6 hi (by omega)).1, (g i 7 hi (by omega)).1⟩) (fun i hi => (hm i).choose_spec hi) (fun i hi => (g i 6 hi (by omega)).2.2.1 rfl) (fun i hi => (g i 7 hi (by omega)).2.2.2 rfl)
theorem ws_of (hfz : ∀ k, Sig.fz k = fzW W k) : ∀ (fuel : Nat) (s : Value) (y : DataW H × List MemPlace), DataW.trod enc Tryz.prog W base sp held fuel 63 [s] = some y → ∃ v, WS v ∧ ∀ ρ, VR ρ v s := by
  intro fuel
  induction fuel using Nat.strongRecOn with
  | ind fuel ih =>
    intro s y h
    cases fuel with
    | zero => simp [DataW.trod] at h
    | succ n =>
      obtain ⟨x, m, hx, hv⟩ := sl_make (Q := PW) hfz Tryz.underlying63 cn65 (by decide) (fun cells y hy hl k c hc => by
        rcases (show k = 5 ∨ k = 6 ∨ k = 7 ∨ (k ≠ 5 ∧ k ≠ 6 ∧ k ≠ 7) by omega) with rfl | rfl | rfl | ⟨h5, h6, h7⟩
        · obtain ⟨n', z, e, hz⟩ := field_at (i := 5) Tryz.underlying65 hy rfl cn56 hc
          obtain ⟨v, p, q⟩ := ls_of Tryz.underlying56 hz
          exact ⟨v, ⟨fun _ => p, fun e => by omega, fun e => by omega⟩, q⟩
        · obtain ⟨n', z, e, hz⟩ := field_at (i := 6) Tryz.underlying65 hy rfl cn63 hc
          obtain ⟨v, p, q⟩ := ih n' (by omega) _ _ hz
          exact ⟨v, ⟨fun e => by omega, fun _ => p, fun e => by omega⟩, q⟩
        · obtain ⟨n', z, e, hz⟩ := field_at (i := 7) Tryz.underlying65 hy rfl cn63 hc
          obtain ⟨v, p, q⟩ := ih n' (by omega) _ _ hz
          exact ⟨v, ⟨fun e => by omega, fun e => by omega, fun _ => p⟩, q⟩
        · exact ⟨.bad, ⟨fun e => absurd e h5, fun e => absurd e h6, fun e => absurd e h7⟩, fun ρ => .bad c⟩) h
      exact ⟨x, ws_of_fsp hx, hv⟩
theorem fs_of {esz : Nat} {P : Nat → NV → Prop} {Q : List NV → Nat → Prop} (hQ : ∀ cs b, (∀ j, j < esz → ∃ v, nth cs (b + j) = some v ∧ P j v) → Q cs b) {x : NV} {n : Nat} (h : FSP esz P x n) : FS esz Q x n := by
  cases h with
  | zero => exact .zero
  | more k n cs h0 hn hq => exact .more k n cs h0 hn fun i hi => hQ cs (i * esz) fun j hj => hq i j hi hj
/-- A slice, cell by cell. -/
theorem fs_make (hfz : ∀ k, Sig.fz k = fzW W k) {P : Nat → NV → Prop} {Q : List NV → Nat → Prop} {t e : TypeId} {esz fuel : Nat} (ht : Tryz.prog.underlying t = some (.slice e)) (hc : Tryz.prog.cellsOf e = esz) (he : 0 < esz)
    (elem : ∀ (n : Nat) (cells : List Value) (y : DataW H × List MemPlace), DataW.trod enc Tryz.prog W base sp held n e cells = some y → ∀ (k : Nat) (c : Value), cells[k]? = some c → ∃ v, P k v ∧ ∀ ρ, VR ρ v c)
    (hQ : ∀ cs b, (∀ j, j < esz → ∃ v, nth cs (b + j) = some v ∧ P j v) → Q cs b) {s : Value} {y : DataW H × List MemPlace} (h : DataW.trod enc Tryz.prog W base sp held fuel t [s] = some y) : ∃ x m, FS esz Q x m ∧ ∀ ρ, VR ρ x s := by
  cases fuel with
  | zero => simp [DataW.trod] at h
  | succ n =>
    obtain ⟨x, m, hx, hv⟩ := sl_make (Q := P) hfz ht hc he (fun cells y hy _ => elem n cells y hy) h
    exact ⟨x, m, fs_of hQ hx, hv⟩
variable {fuel : Nat} {s : Value} {y : DataW H × List MemPlace}
theorem types_of (hfz : ∀ k, Sig.fz k = fzW W k) (h : DataW.trod enc Tryz.prog W base sp held fuel 22 [s] = some y) : ∃ x m, FS 2 QT x m ∧ ∀ ρ, VR ρ x s :=
  fs_make (P := PT) hfz Tryz.underlying22 cn58 (by decide) (fun n cells y hy k c hc => by
    have hl : k < 2 := by
      obtain ⟨_, _, _, _, hl, _⟩ := DataW.trod_struct Tryz.underlying58 hy
      rw [cn58] at hl
      have := (List.getElem?_eq_some_iff.1 hc).1
      omega
    rcases (show k = 0 ∨ k = 1 by omega) with rfl | rfl
    · obtain ⟨n', z, e, hz⟩ := field_at (i := 0) Tryz.underlying58 hy rfl cn56 hc
      exact ls_of Tryz.underlying56 hz
    · obtain ⟨n', z, e, hz⟩ := field_at (i := 1) Tryz.underlying58 hy rfl cn56 hc
      exact ls_of Tryz.underlying56 hz) (fun cs b hj => by
    obtain ⟨a, e1, m1, p1⟩ := hj 0 (by decide)
    obtain ⟨a', e2, m2, p2⟩ := hj 1 (by decide)
    exact ⟨a, a', m1, m2, e1, e2, p1, p2⟩) h
theorem imports_of (hfz : ∀ k, Sig.fz k = fzW W k) (h : DataW.trod enc Tryz.prog W base sp held fuel 23 [s] = some y) : ∃ x m, FS 13 QI x m ∧ ∀ ρ, VR ρ x s :=
  fs_make (P := PI) hfz Tryz.underlying23 cn81 (by decide) (fun n cells y hy k c hc => by
    rcases (show k = 0 ∨ k = 1 ∨ 2 ≤ k by omega) with rfl | rfl | hk
    · obtain ⟨n', z, e, hz⟩ := field_at (i := 0) Tryz.underlying81 hy rfl cn9 hc
      obtain ⟨v, p, q⟩ := st_of Tryz.underlying9 hz
      exact ⟨v, fun _ => p, q⟩
    · obtain ⟨n', z, e, hz⟩ := field_at (i := 1) Tryz.underlying81 hy rfl cn9 hc
      obtain ⟨v, p, q⟩ := st_of Tryz.underlying9 hz
      exact ⟨v, fun _ => p, q⟩
    · exact ⟨.bad, fun e => by omega, fun ρ => .bad c⟩) (fun cs b hj => by
    obtain ⟨a, e1, p1⟩ := hj 0 (by decide)
    obtain ⟨a', e2, p2⟩ := hj 1 (by decide)
    exact ⟨a, a', e1, e2, p1 (.inl rfl), p2 (.inr rfl)⟩) h
theorem exports_of (hfz : ∀ k, Sig.fz k = fzW W k) (h : DataW.trod enc Tryz.prog W base sp held fuel 28 [s] = some y) : ∃ x m, FS 3 QX x m ∧ ∀ ρ, VR ρ x s :=
  fs_make (P := PX) hfz Tryz.underlying28 cn70 (by decide) (fun n cells y hy k c hc => by
    rcases (show k = 0 ∨ 1 ≤ k by omega) with rfl | hk
    · obtain ⟨n', z, e, hz⟩ := field_at (i := 0) Tryz.underlying70 hy rfl cn9 hc
      obtain ⟨v, p, q⟩ := st_of Tryz.underlying9 hz
      exact ⟨v, fun _ => p, q⟩
    · exact ⟨.bad, fun e => by omega, fun ρ => .bad c⟩) (fun cs b hj => by
    obtain ⟨a, e1, p1⟩ := hj 0 (by decide)
    exact ⟨a, e1, p1 rfl⟩) h
theorem funcs_of (hfz : ∀ k, Sig.fz k = fzW W k) (h : DataW.trod enc Tryz.prog W base sp held fuel 24 [s] = some y) : ∃ x m, FS 3 QF x m ∧ ∀ ρ, VR ρ x s :=
  fs_make (P := PF) hfz Tryz.underlying24 cn84 (by decide) (fun n cells y hy k c hc => by
    rcases (show k = 1 ∨ k = 2 ∨ (k ≠ 1 ∧ k ≠ 2) by omega) with rfl | rfl | ⟨h1, h2⟩
    · obtain ⟨n', z, e, hz⟩ := field_at (i := 1) Tryz.underlying84 hy rfl cn56 hc
      obtain ⟨v, p, q⟩ := ls_of Tryz.underlying56 hz
      exact ⟨v, ⟨fun e => by omega, fun _ => p⟩, q⟩
    · obtain ⟨n', z, e, hz⟩ := field_at (i := 2) Tryz.underlying84 hy rfl cn63 hc
      obtain ⟨v, p, q⟩ := ws_of hfz _ _ _ hz
      exact ⟨v, ⟨fun _ => p, fun e => by omega⟩, q⟩
    · exact ⟨.bad, ⟨fun e => absurd e h2, fun e => absurd e h1⟩, fun ρ => .bad c⟩) (fun cs b hj => by
    obtain ⟨a, e1, p1⟩ := hj 2 (by decide)
    obtain ⟨a', e2, p2⟩ := hj 1 (by decide)
    obtain ⟨m, hm⟩ := p2.2 rfl
    exact ⟨a, a', m, e1, e2, p1.1 rfl, hm⟩) h
theorem globals_of (hfz : ∀ k, Sig.fz k = fzW W k) (h : DataW.trod enc Tryz.prog W base sp held fuel 27 [s] = some y) : ∃ x m, FS 3 QG x m ∧ ∀ ρ, VR ρ x s :=
  fs_make (P := PG) hfz Tryz.underlying27 cn86 (by decide) (fun n cells y hy k c hc => by
    rcases (show k = 2 ∨ k ≠ 2 by omega) with rfl | h2
    · obtain ⟨n', z, e, hz⟩ := field_at (i := 1) Tryz.underlying86 hy rfl cn63 hc
      obtain ⟨v, p, q⟩ := ws_of hfz _ _ _ hz
      exact ⟨v, fun _ => p, q⟩
    · exact ⟨.bad, fun e => absurd e h2, fun ρ => .bad c⟩) (fun cs b hj => by
    obtain ⟨a, e1, p1⟩ := hj 2 (by decide)
    exact ⟨a, e1, p1 rfl⟩) h
theorem inits_of (hfz : ∀ k, Sig.fz k = fzW W k) {fuel : Nat} {s : Value} {y : DataW H × List MemPlace} (h : DataW.trod enc Tryz.prog W base sp held fuel 87 [s] = some y) : ∃ x m, FS 1 QW x m ∧ ∀ ρ, VR ρ x s :=
  fs_make (P := fun k v => k = 0 → WS v) hfz Tryz.underlying87 cn63 (by decide) (fun n cells y hy k c hc => by
    rcases (show k = 0 ∨ k ≠ 0 by omega) with rfl | h2
    · have hl : cells = [c] := by
        rcases DataW.trod_slice Tryz.underlying63 hy with ⟨e, _⟩ | ⟨_, _, _, _, _, _, _, e, _⟩ <;> subst e <;> cases hc <;> rfl
      rw [hl] at hy
      obtain ⟨v, p, q⟩ := ws_of hfz _ _ _ hy
      exact ⟨v, fun _ => p, q⟩
    · exact ⟨.bad, fun e => absurd e h2, fun ρ => .bad c⟩) (fun cs b hj => by
    obtain ⟨a, e1, p1⟩ := hj 0 (by decide)
    exact ⟨a, e1, p1 rfl⟩) h
theorem elems_of (hfz : ∀ k, Sig.fz k = fzW W k) (h : DataW.trod enc Tryz.prog W base sp held fuel 29 [s] = some y) : ∃ x m, FS 5 QE x m ∧ ∀ ρ, VR ρ x s :=
  fs_make (P := PE) hfz Tryz.underlying29 cn89 (by decide) (fun n cells y hy k c hc => by
    rcases (show k = 3 ∨ k = 4 ∨ (k ≠ 3 ∧ k ≠ 4) by omega) with rfl | rfl | ⟨h1, h2⟩
    · obtain ⟨n', z, e, hz⟩ := field_at (i := 3) Tryz.underlying89 hy rfl cn63 hc
      obtain ⟨v, p, q⟩ := ws_of hfz _ _ _ hz
      exact ⟨v, ⟨fun _ => p, fun e => by omega⟩, q⟩
    · obtain ⟨n', z, e, hz⟩ := field_at (i := 4) Tryz.underlying89 hy rfl cn87 hc
      obtain ⟨v, m, p, q⟩ := inits_of hfz hz
      exact ⟨v, ⟨fun e => by omega, fun _ => ⟨m, p⟩⟩, q⟩
    · exact ⟨.bad, ⟨fun e => absurd e h1, fun e => absurd e h2⟩, fun ρ => .bad c⟩) (fun cs b hj => by
    obtain ⟨a, e1, p1⟩ := hj 3 (by decide)
    obtain ⟨a', e2, p2⟩ := hj 4 (by decide)
    obtain ⟨m, hm⟩ := p2.2 rfl
    exact ⟨a, a', m, e1, e2, p1.1 rfl, hm⟩) h
theorem datas_of (hfz : ∀ k, Sig.fz k = fzW W k) (h : DataW.trod enc Tryz.prog W base sp held fuel 30 [s] = some y) : ∃ x m, FS 4 QD x m ∧ ∀ ρ, VR ρ x s :=
  fs_make (P := PD) hfz Tryz.underlying30 cn68 (by decide) (fun n cells y hy k c hc => by
    rcases (show k = 2 ∨ k = 3 ∨ (k ≠ 2 ∧ k ≠ 3) by omega) with rfl | rfl | ⟨h1, h2⟩
    · obtain ⟨n', z, e, hz⟩ := field_at (i := 2) Tryz.underlying68 hy rfl cn63 hc
      obtain ⟨v, p, q⟩ := ws_of hfz _ _ _ hz
      exact ⟨v, ⟨fun _ => p, fun e => by omega⟩, q⟩
    · obtain ⟨n', z, e, hz⟩ := field_at (i := 3) Tryz.underlying68 hy rfl cn66 hc
      obtain ⟨v, p, q⟩ := ls_of Tryz.underlying66 hz
      exact ⟨v, ⟨fun e => by omega, fun _ => p⟩, q⟩
    · exact ⟨.bad, ⟨fun e => absurd e h1, fun e => absurd e h2⟩, fun ρ => .bad c⟩) (fun cs b hj => by
    obtain ⟨a, e1, p1⟩ := hj 2 (by decide)
    obtain ⟨a', e2, p2⟩ := hj 3 (by decide)
    obtain ⟨m, hm⟩ := p2.2 rfl
    exact ⟨a, a', m, e1, e2, p1.1 rfl, hm⟩) h
end
end Go.Proofs.YtoikhmpgaihiaaaGreatDoor
