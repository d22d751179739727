/- Seat instnone: bodkinref09.Fits answers with a bool, whatever the module. -/
import Derived.Test.YtoikhmpgaihiaaaGreatDoorIY
set_option maxRecDepth 100000
set_option linter.unusedVariables false
set_option linter.unusedSectionVars false
namespace Go.Proofs.YtoikhmpgaihiaaaGreatDoor
open Go Go.Ne
theorem sym_lt [Sig] {i m : Nat} : symO .lss (.int .i64 (.ofNat i)) (.sint .i64 none (.ofNat m) (.ofNat m)) = some (.bool (decide (i < m))) := by
  show sureB (lessI (.ofNat i) (.ofNat m)) (intBle (.ofNat m) (.ofNat i)) = _
  by_cases h : i < m
  · have : lessI (.ofNat i) (.ofNat m) = true := lessI_iff.2 (Int.ofNat_lt.2 h)
    rw [this]; simp [sureB, h]
  · have h1 : lessI (.ofNat i) (.ofNat m) = false := by rw [← Bool.not_eq_true, lessI_iff]; intro e; exact h (Int.ofNat_lt.1 e)
    have h2 : intBle (.ofNat m) (.ofNat i) = true := intBle_iff.2 (Int.ofNat_le.2 (by omega))
    rw [h1, h2]; simp [sureB, h]
/-- A slice whose elements are asked for. -/
inductive FS (esz : Nat) (Q : List NV → Nat → Prop) : NV → Nat → Prop
  | zero : FS esz Q (.anys none (.ofNat 0) (.ofNat 0)) 0
  | more (k n : Nat) (cs : List NV) (h0 : 0 < n) (hn : n ≤ 9223372036854775807) (hq : ∀ i, i < n → Q cs (i * esz)) : FS esz Q (.fsl k n cs) n
section
variable [Sig]
theorem FS.len {esz : Nat} {Q : List NV → Nat → Prop} {s : NV} {n : Nat} (h : FS esz Q s n) : ∃ v, lenSl s = some v ∧ (∀ i : Nat, ltI (.int .i64 (.ofNat i)) v = some (.bool (decide (i < n)))) ∧ ∀ c : Nat, leI v (.int .i64 (.ofNat c)) = some (.bool (decide (n ≤ c))) := by
  cases h with
  | zero => exact ⟨_, rfl, fun i => sym_lt (i := i) (m := 0), fun c => sym_le (m := 0) (c := c)⟩
  | more k n cs h0 hn hq => exact ⟨_, lenSl_fsl k n cs, fun i => by
      have := ltI_i (.ofNat i) (n : Int)
      rw [this]; congr 2; simp, fun c => by
      have := leI_i (n : Int) (.ofNat c)
      rw [this]; congr 2; simp⟩
theorem FS.at {esz : Nat} {Q : List NV → Nat → Prop} {s : NV} {n : Nat} (h : FS esz Q s n) {i : Nat} (hi : i < n) : ∃ k cs, ixS esz s (.int .i64 (.ofNat i)) = some (.fptr k (i * esz) cs) ∧ Q cs (i * esz) := by
  cases h with
  | zero => omega
  | more k n cs h0 hn hq => exact ⟨k, cs, ixS_fsl hi, hq i hi⟩
theorem FS.bound {esz : Nat} {Q : List NV → Nat → Prop} {s : NV} {n : Nat} (h : FS esz Q s n) : n ≤ 9223372036854775807 := by
  cases h with
  | zero => omega
  | more k n cs h0 hn hq => exact hn
theorem FS.len2 {esz : Nat} {Q : List NV → Nat → Prop} {s : NV} {n : Nat} (h : FS esz Q s n) : ∃ v, lenSl s = some v ∧ (∀ c : Nat, leI v (.int .i64 (.ofNat c)) = some (.bool (decide (n ≤ c)))) := by
  obtain ⟨v, h1, _, h2⟩ := h.len
  exact ⟨v, h1, h2⟩
theorem LS.le {x : NV} {m : Nat} (h : LS x m) : ∃ v, lenSl x = some v ∧ ∀ c : Nat, leI v (.int .i64 (.ofNat c)) = some (.bool (decide (m ≤ c))) := by
  obtain ⟨v, h1, _, h2⟩ := h.len
  exact ⟨v, h1, h2⟩
/-- A string. -/
def ST (x : NV) : Prop := ∃ n v : Nat, x = .str n v
theorem ST.le {x : NV} (h : ST x) (c : Nat) : ∃ v b, lenStr x = some v ∧ leI v (.int .i64 (.ofNat c)) = some (.bool b) := by
  obtain ⟨n, v, rfl⟩ := h
  exact ⟨_, _, rfl, by rw [numF_eq, numL_eq]; exact leI_i _ _⟩
theorem inc {i : Nat} (h : i < 9223372036854775807) : addI (.int .i64 (.ofNat i)) (.int .i64 (.ofNat 1)) = some (.int .i64 (.ofNat (i + 1))) := add1 h
/-! ### Loops -/
theorem loop_ok {F : NF 3 → NF 3} {J : NF 2} {p : NV} {h : H} {n : Nat}
    (hF : ∀ (i : Nat) (b : Bool), (b = true ∧ i < n → ∃ b', ∀ L : NF 3, F L p (.bool b) (.int .i64 (.ofNat i)) h = L p (.bool b') (.int .i64 (.ofNat (i + 1))) h) ∧ (¬ (b = true ∧ i < n) → ∀ L : NF 3, F L p (.bool b) (.int .i64 (.ofNat i)) h = J p (.bool b) h)) :
    ∀ (M i : Nat) (b : Bool), 0 < M → (b = true → n < i + M) → i ≤ n → ∃ b', loopC M 3 F p (.bool b) (.int .i64 (.ofNat i)) h = J p (.bool b') h ∧ (b' = true → b = true) := by
  intro M
  induction M with
  | zero => intro i b h0; omega
  | succ M ih =>
    intro i b _ hb hi
    rw [loop_s]
    by_cases hc : b = true ∧ i < n
    · obtain ⟨b', e⟩ := (hF i b).1 hc
      rw [e]
      have := hb hc.1
      obtain ⟨b2, e2, _⟩ := ih (i + 1) b' (by omega) (fun _ => by omega) (by omega)
      exact ⟨b2, e2, fun _ => hc.1⟩
    · exact ⟨b, (hF i b).2 hc _, id⟩
/-- What is known of the module's places. -/
def At (p : NV) (h : H) (k : Nat) (x : NV) : Prop := ∃ a, fAddr k p = some a ∧ ldO 1 false h a = some x
def QT (cs : List NV) (j : Nat) : Prop := ∃ a b m1 m2, nth cs (j + 0) = some a ∧ nth cs (j + 1) = some b ∧ LS a m1 ∧ LS b m2
theorem stepT {call : CallF} {J : NF 2} {p : NV} {h : H} {x : NV} {n : Nat} (hp : At p h 0 x) (hs : FS 2 QT x n) (i : Nat) (b : Bool) :
    (b = true ∧ i < n → ∃ b', ∀ L : NF 3, fT call J L p (.bool b) (.int .i64 (.ofNat i)) h = L p (.bool b') (.int .i64 (.ofNat (i + 1))) h) ∧ (¬ (b = true ∧ i < n) → ∀ L : NF 3, fT call J L p (.bool b) (.int .i64 (.ofNat i)) h = J p (.bool b) h) := by
  obtain ⟨a, e1, e2⟩ := hp
  obtain ⟨v, l1, l2, _⟩ := hs.len
  constructor
  · rintro ⟨rfl, hi⟩
    obtain ⟨k, cs, g1, a1, a2, m1, m2, g2, g3, s1, s2⟩ := hs.at hi
    obtain ⟨w1, y1, y2⟩ := s1.le
    obtain ⟨w2, z1, z2⟩ := s2.le
    have hb := hs.bound
    have l3 := l2 i
    rw [decide_eq_true hi] at l3
    have hinc := inc (i := i) (by omega)
    have y3 := y2 1000
    have z3 := z2 1000
    generalize decide (m1 ≤ 1000) = c1 at y3
    generalize decide (m2 ≤ 1000) = c2 at z3
    cases c1
    · exact ⟨false, fun L => by simp only [fT, e1, e2, bK_s, l1, l3, jK_e, gK_tt, gK_ft, pickO_t, pickO_f, condK_t, g1, fAddr_fptr, ldO_fptr, g2, y1, y3, hinc]⟩
    · exact ⟨c2, fun L => by simp only [fT, e1, e2, bK_s, l1, l3, jK_e, gK_tt, pickO_t, condK_t, g1, fAddr_fptr, ldO_fptr, g2, g3, y1, y3, z1, z3, hinc]⟩
  · intro hc L
    have l3 := l2 i
    by_cases hi : i < n
    · rw [decide_eq_true hi] at l3
      have : b = false := by cases b <;> simp_all
      subst this
      simp only [fT, e1, e2, bK_s, l1, l3, jK_e, gK_tt, pickO_t, condK_f]
    · rw [decide_eq_false hi] at l3
      simp only [fT, e1, e2, bK_s, l1, l3, jK_e, gK_ft, pickO_f, condK_f]
def QI (cs : List NV) (j : Nat) : Prop := ∃ a b, nth cs (j + 0) = some a ∧ nth cs (j + 1) = some b ∧ ST a ∧ ST b
theorem stepI {call : CallF} {J : NF 2} {p : NV} {h : H} {x : NV} {n : Nat} (hp : At p h 1 x) (hs : FS 13 QI x n) (i : Nat) (b : Bool) :
    (b = true ∧ i < n → ∃ b', ∀ L : NF 3, fI call J L p (.bool b) (.int .i64 (.ofNat i)) h = L p (.bool b') (.int .i64 (.ofNat (i + 1))) h) ∧ (¬ (b = true ∧ i < n) → ∀ L : NF 3, fI call J L p (.bool b) (.int .i64 (.ofNat i)) h = J p (.bool b) h) := by
  obtain ⟨a, e1, e2⟩ := hp
  obtain ⟨v, l1, l2, _⟩ := hs.len
  constructor
  · rintro ⟨rfl, hi⟩
    obtain ⟨k, cs, g1, a1, a2, g2, g3, s1, s2⟩ := hs.at hi
    obtain ⟨w1, c1, y1, y3⟩ := s1.le 1000
    obtain ⟨w2, c2, z1, z3⟩ := s2.le 1000
    have hb := hs.bound
    have l3 := l2 i
    rw [decide_eq_true hi] at l3
    have hinc := inc (i := i) (by omega)
    cases c1
    · exact ⟨false, fun L => by simp only [fI, e1, e2, bK_s, l1, l3, jK_e, gK_tt, gK_ft, pickO_t, pickO_f, condK_t, g1, fAddr_fptr, ldO_fptr, g2, y1, y3, hinc]⟩
    · exact ⟨c2, fun L => by simp only [fI, e1, e2, bK_s, l1, l3, jK_e, gK_tt, pickO_t, condK_t, g1, fAddr_fptr, ldO_fptr, g2, g3, y1, y3, z1, z3, hinc]⟩
  · intro hc L
    have l3 := l2 i
    by_cases hi : i < n
    · rw [decide_eq_true hi] at l3
      have : b = false := by cases b <;> simp_all
      subst this
      simp only [fI, e1, e2, bK_s, l1, l3, jK_e, gK_tt, pickO_t, condK_f]
    · rw [decide_eq_false hi] at l3
      simp only [fI, e1, e2, bK_s, l1, l3, jK_e, gK_ft, pickO_f, condK_f]
def QX (cs : List NV) (j : Nat) : Prop := ∃ a, nth cs (j + 0) = some a ∧ ST a
theorem stepX {call : CallF} {J : NF 2} {p : NV} {h : H} {x : NV} {n : Nat} (hp : At p h 6 x) (hs : FS 3 QX x n) (i : Nat) (b : Bool) :
    (b = true ∧ i < n → ∃ b', ∀ L : NF 3, fX call J L p (.bool b) (.int .i64 (.ofNat i)) h = L p (.bool b') (.int .i64 (.ofNat (i + 1))) h) ∧ (¬ (b = true ∧ i < n) → ∀ L : NF 3, fX call J L p (.bool b) (.int .i64 (.ofNat i)) h = J p (.bool b) h) := by
  obtain ⟨a, e1, e2⟩ := hp
  obtain ⟨v, l1, l2, _⟩ := hs.len
  constructor
  · rintro ⟨rfl, hi⟩
    obtain ⟨k, cs, g1, a1, g2, s1⟩ := hs.at hi
    obtain ⟨w1, c1, y1, y3⟩ := s1.le 1000
    have hb := hs.bound
    have l3 := l2 i
    rw [decide_eq_true hi] at l3
    have hinc := inc (i := i) (by omega)
    exact ⟨c1, fun L => by simp only [fX, e1, e2, bK_s, l1, l3, jK_e, gK_tt, pickO_t, condK_t, g1, fAddr_fptr, ldO_fptr, g2, y1, y3, hinc]⟩
  · intro hc L
    have l3 := l2 i
    by_cases hi : i < n
    · rw [decide_eq_true hi] at l3
      have : b = false := by cases b <;> simp_all
      subst this
      simp only [fX, e1, e2, bK_s, l1, l3, jK_e, gK_tt, pickO_t, condK_f]
    · rw [decide_eq_false hi] at l3
      simp only [fX, e1, e2, bK_s, l1, l3, jK_e, gK_ft, pickO_f, condK_f]
def QF (cs : List NV) (j : Nat) : Prop := ∃ a b m, nth cs (j + 2) = some a ∧ nth cs (j + 1) = some b ∧ WS a ∧ LS b m
theorem stepF {call : CallF} {J : NF 2} {p : NV} {h : H} {x : NV} {n : Nat} (hfew : ∀ x, WS x → ∃ b, call 9 [x] h = some (.bool b, h)) (hp : At p h 2 x) (hs : FS 3 QF x n) (i : Nat) (b : Bool) :
    (b = true ∧ i < n → ∃ b', ∀ L : NF 3, fF call J L p (.bool b) (.int .i64 (.ofNat i)) h = L p (.bool b') (.int .i64 (.ofNat (i + 1))) h) ∧ (¬ (b = true ∧ i < n) → ∀ L : NF 3, fF call J L p (.bool b) (.int .i64 (.ofNat i)) h = J p (.bool b) h) := by
  obtain ⟨a, e1, e2⟩ := hp
  obtain ⟨v, l1, l2, _⟩ := hs.len
  constructor
  · rintro ⟨rfl, hi⟩
    obtain ⟨k, cs, g1, a1, a2, m2, g2, g3, s1, s2⟩ := hs.at hi
    obtain ⟨c1, y1⟩ := hfew a1 s1
    obtain ⟨w2, z1, z2⟩ := s2.le
    have z3 := z2 60000
    generalize decide (m2 ≤ 60000) = c2 at z3
    have hb := hs.bound
    have l3 := l2 i
    rw [decide_eq_true hi] at l3
    have hinc := inc (i := i) (by omega)
    cases c1
    · exact ⟨false, fun L => by simp only [fF, e1, e2, bK_s, l1, l3, jK_e, gK_tt, gK_ft, pickO_t, pickO_f, condK_t, g1, fAddr_fptr, ldO_fptr, g2, calM, mK_s, y1, hinc]⟩
    · exact ⟨c2, fun L => by simp only [fF, e1, e2, bK_s, l1, l3, jK_e, gK_tt, pickO_t, condK_t, g1, fAddr_fptr, ldO_fptr, g2, g3, calM, mK_s, y1, z1, z3, hinc]⟩
  · intro hc L
    have l3 := l2 i
    by_cases hi : i < n
    · rw [decide_eq_true hi] at l3
      have : b = false := by cases b <;> simp_all
      subst this
      simp only [fF, e1, e2, bK_s, l1, l3, jK_e, gK_tt, pickO_t, condK_f]
    · rw [decide_eq_false hi] at l3
      simp only [fF, e1, e2, bK_s, l1, l3, jK_e, gK_ft, pickO_f, condK_f]
def QG (cs : List NV) (j : Nat) : Prop := ∃ a, nth cs (j + 2) = some a ∧ WS a
theorem stepG {call : CallF} {J : NF 2} {p : NV} {h : H} {x : NV} {n : Nat} (hfew : ∀ x, WS x → ∃ b, call 9 [x] h = some (.bool b, h)) (hp : At p h 5 x) (hs : FS 3 QG x n) (i : Nat) (b : Bool) :
    (b = true ∧ i < n → ∃ b', ∀ L : NF 3, fG call J L p (.bool b) (.int .i64 (.ofNat i)) h = L p (.bool b') (.int .i64 (.ofNat (i + 1))) h) ∧ (¬ (b = true ∧ i < n) → ∀ L : NF 3, fG call J L p (.bool b) (.int .i64 (.ofNat i)) h = J p (.bool b) h) := by
  obtain ⟨a, e1, e2⟩ := hp
  obtain ⟨v, l1, l2, _⟩ := hs.len
  constructor
  · rintro ⟨rfl, hi⟩
    obtain ⟨k, cs, g1, a1, g2, s1⟩ := hs.at hi
    obtain ⟨c1, y1⟩ := hfew a1 s1
    have hb := hs.bound
    have l3 := l2 i
    rw [decide_eq_true hi] at l3
    have hinc := inc (i := i) (by omega)
    exact ⟨c1, fun L => by simp only [fG, e1, e2, bK_s, l1, l3, jK_e, gK_tt, pickO_t, condK_t, g1, fAddr_fptr, ldO_fptr, g2, calM, mK_s, y1, hinc]⟩
  · intro hc L
    have l3 := l2 i
    by_cases hi : i < n
    · rw [decide_eq_true hi] at l3
      have : b = false := by cases b <;> simp_all
      subst this
      simp only [fG, e1, e2, bK_s, l1, l3, jK_e, gK_tt, pickO_t, condK_f]
    · rw [decide_eq_false hi] at l3
      simp only [fG, e1, e2, bK_s, l1, l3, jK_e, gK_ft, pickO_f, condK_f]
def QD (cs : List NV) (j : Nat) : Prop := ∃ a b m, nth cs (j + 2) = some a ∧ nth cs (j + 3) = some b ∧ WS a ∧ LS b m
theorem stepD {call : CallF} {J : NF 1} {p : NV} {h : H} {x : NV} {n : Nat} (hfew : ∀ x, WS x → ∃ b, call 9 [x] h = some (.bool b, h)) (hp : At p h 9 x) (hs : FS 4 QD x n) (i : Nat) (b : Bool) :
    (b = true ∧ i < n → ∃ b', ∀ L : NF 3, fD call J L p (.bool b) (.int .i64 (.ofNat i)) h = L p (.bool b') (.int .i64 (.ofNat (i + 1))) h) ∧ (¬ (b = true ∧ i < n) → ∀ L : NF 3, fD call J L p (.bool b) (.int .i64 (.ofNat i)) h = J (.bool b) h) := by
  obtain ⟨a, e1, e2⟩ := hp
  obtain ⟨v, l1, l2, _⟩ := hs.len
  constructor
  · rintro ⟨rfl, hi⟩
    obtain ⟨k, cs, g1, a1, a2, m2, g2, g3, s1, s2⟩ := hs.at hi
    obtain ⟨c1, y1⟩ := hfew a1 s1
    obtain ⟨w2, z1, z2⟩ := s2.le
    have z3 := z2 100000
    generalize decide (m2 ≤ 100000) = c2 at z3
    have hb := hs.bound
    have l3 := l2 i
    rw [decide_eq_true hi] at l3
    have hinc := inc (i := i) (by omega)
    cases c1
    · exact ⟨false, fun L => by simp only [fD, e1, e2, bK_s, l1, l3, jK_e, gK_tt, gK_ft, pickO_t, pickO_f, condK_t, g1, fAddr_fptr, ldO_fptr, g2, calM, mK_s, y1, hinc]⟩
    · exact ⟨c2, fun L => by simp only [fD, e1, e2, bK_s, l1, l3, jK_e, gK_tt, pickO_t, condK_t, g1, fAddr_fptr, ldO_fptr, g2, g3, calM, mK_s, y1, z1, z3, hinc]⟩
  · intro hc L
    have l3 := l2 i
    by_cases hi : i < n
    · rw [decide_eq_true hi] at l3
      have : b = false := by cases b <;> simp_all
      subst this
      simp only [fD, e1, e2, bK_s, l1, l3, jK_e, gK_tt, pickO_t, condK_f]
    · rw [decide_eq_false hi] at l3
      simp only [fD, e1, e2, bK_s, l1, l3, jK_e, gK_ft, pickO_f, condK_f]
theorem loop4_ok {F : NF 3 → NF 4 → NF 4} {p q : NV} {h : H} {n : Nat}
    (hF : ∀ (i : Nat) (b : Bool), (b = true ∧ i < n → ∃ b', ∀ (J : NF 3) (L : NF 4), F J L p (.bool b) q (.int .i64 (.ofNat i)) h = L p (.bool b') q (.int .i64 (.ofNat (i + 1))) h) ∧ (¬ (b = true ∧ i < n) → ∀ (J : NF 3) (L : NF 4), F J L p (.bool b) q (.int .i64 (.ofNat i)) h = J p (.bool b) q h)) :
    ∀ (M i : Nat) (b : Bool), 0 < M → (b = true → n < i + M) → i ≤ n → ∃ b', ∀ J : NF 3, loopC M 4 (F J) p (.bool b) q (.int .i64 (.ofNat i)) h = J p (.bool b') q h := by
  intro M
  induction M with
  | zero => intro i b h0; omega
  | succ M ih =>
    intro i b _ hb hi
    by_cases hc : b = true ∧ i < n
    · obtain ⟨b', e⟩ := (hF i b).1 hc
      have := hb hc.1
      obtain ⟨b2, e2⟩ := ih (i + 1) b' (by omega) (fun _ => by omega) (by omega)
      exact ⟨b2, fun J => by rw [loop_s, e J]; exact e2 J⟩
    · exact ⟨b, fun J => by rw [loop_s]; exact (hF i b).2 hc J _⟩
def QW (cs : List NV) (j : Nat) : Prop := ∃ a, nth cs j = some a ∧ WS a
theorem loopD_ok {F : NF 3 → NF 3} {J : NF 1} {p : NV} {h : H} {n : Nat}
    (hF : ∀ (i : Nat) (b : Bool), (b = true ∧ i < n → ∃ b', ∀ L : NF 3, F L p (.bool b) (.int .i64 (.ofNat i)) h = L p (.bool b') (.int .i64 (.ofNat (i + 1))) h) ∧ (¬ (b = true ∧ i < n) → ∀ L : NF 3, F L p (.bool b) (.int .i64 (.ofNat i)) h = J (.bool b) h)) :
    ∀ (M i : Nat) (b : Bool), 0 < M → (b = true → n < i + M) → i ≤ n → ∃ b', loopC M 3 F p (.bool b) (.int .i64 (.ofNat i)) h = J (.bool b') h := by
  intro M
  induction M with
  | zero => intro i b h0; omega
  | succ M ih =>
    intro i b _ hb hi
    rw [loop_s]
    by_cases hc : b = true ∧ i < n
    · obtain ⟨b', e⟩ := (hF i b).1 hc
      rw [e]
      have := hb hc.1
      exact ih (i + 1) b' (by omega) (fun _ => by omega) (by omega)
    · exact ⟨b, (hF i b).2 hc _⟩
def QE (cs : List NV) (j : Nat) : Prop := ∃ a b m, nth cs (j + 3) = some a ∧ nth cs (j + 4) = some b ∧ WS a ∧ FS 1 QW b m
theorem stepK {call : CallF} {p : NV} {h : H} {x : NV} {n q : Nat} (hfew : ∀ x, WS x → ∃ b, call 9 [x] h = some (.bool b, h)) (hp : At p h 8 x) (hs : FS 5 QE x n) (hq : q < n) {k0 : Nat} {cs0 : List NV} {b0 : NV} {m : Nat} (g0 : ixS 5 x (.int .i64 (.ofNat q)) = some (.fptr k0 (q * 5) cs0)) (g4 : nth cs0 (q * 5 + 4) = some b0) (hb0 : FS 1 QW b0 m) (i : Nat) (b : Bool) :
    (b = true ∧ i < m → ∃ b', ∀ (J : NF 3) (L : NF 4), fK call J L p (.bool b) (.int .i64 (.ofNat q)) (.int .i64 (.ofNat i)) h = L p (.bool b') (.int .i64 (.ofNat q)) (.int .i64 (.ofNat (i + 1))) h) ∧ (¬ (b = true ∧ i < m) → ∀ (J : NF 3) (L : NF 4), fK call J L p (.bool b) (.int .i64 (.ofNat q)) (.int .i64 (.ofNat i)) h = J p (.bool b) (.int .i64 (.ofNat q)) h) := by
  obtain ⟨a, e1, e2⟩ := hp
  obtain ⟨v, l1, l2, _⟩ := hb0.len
  constructor
  · rintro ⟨rfl, hi⟩
    obtain ⟨k, cs, g1, a1, g2, s1⟩ := hb0.at hi
    obtain ⟨c1, y1⟩ := hfew a1 s1
    have hb := hb0.bound
    have l3 := l2 i
    rw [decide_eq_true hi] at l3
    have hinc := inc (i := i) (by omega)
    exact ⟨c1, fun J L => by simp only [fK, e1, e2, bK_s, g0, g4, l1, l3, jK_e, gK_tt, pickO_t, condK_t, g1, fAddr_fptr, ldO_fptr, g2, calM, mK_s, y1, hinc]⟩
  · intro hc J L
    have l3 := l2 i
    by_cases hi : i < m
    · rw [decide_eq_true hi] at l3
      have : b = false := by cases b <;> simp_all
      subst this
      simp only [fK, e1, e2, bK_s, g0, g4, fAddr_fptr, ldO_fptr, l1, l3, jK_e, gK_tt, pickO_t, condK_f]
    · rw [decide_eq_false hi] at l3
      simp only [fK, e1, e2, bK_s, g0, g4, fAddr_fptr, ldO_fptr, l1, l3, jK_e, gK_ft, pickO_f, condK_f]
theorem stepE {call : CallF} {J : NF 2} {p : NV} {h : H} {x : NV} {n : Nat} (hfew : ∀ x, WS x → ∃ b, call 9 [x] h = some (.bool b, h)) (hp : At p h 8 x) (hs : FS 5 QE x n) (i : Nat) (b : Bool) :
    (b = true ∧ i < n → ∃ b', ∀ L : NF 3, fE call 100000 J L p (.bool b) (.int .i64 (.ofNat i)) h = L p (.bool b') (.int .i64 (.ofNat (i + 1))) h) ∧ (¬ (b = true ∧ i < n) → ∀ L : NF 3, fE call 100000 J L p (.bool b) (.int .i64 (.ofNat i)) h = J p (.bool b) h) := by
  obtain ⟨a, e1, e2⟩ := hp
  obtain ⟨v, l1, l2, _⟩ := hs.len
  constructor
  · rintro ⟨rfl, hi⟩
    obtain ⟨k, cs, g1, a1, a2, m2, g2, g3, s1, s2⟩ := hs.at hi
    obtain ⟨c1, y1⟩ := hfew a1 s1
    obtain ⟨w2, z1, z2⟩ := s2.len2
    have z3 := z2 100
    have hc2 : decide (m2 ≤ 100) = true → m2 ≤ 100 := of_decide_eq_true
    generalize decide (m2 ≤ 100) = c2 at z3 hc2
    have hb := hs.bound
    have l3 := l2 i
    rw [decide_eq_true hi] at l3
    have hinc := inc (i := i) (by omega)
    have lp := fun (c : Bool) (hc : c = true → m2 ≤ 100) => loop4_ok (F := fK call) (stepK hfew ⟨a, e1, e2⟩ hs hi g1 g3 s2) 100000 0 c (by omega) (fun e => by have := hc e; omega) (by omega)
    cases c1
    · obtain ⟨b', hb'⟩ := lp false (fun e => by cases e)
      refine ⟨b', fun L => ?_⟩
      simp only [fE, joinC, e1, e2, bK_s, l1, l3, jK_e, gK_tt, gK_ft, pickO_t, pickO_f, condK_t, g1, fAddr_fptr, ldO_fptr, g2, calM, mK_s, y1]
      refine (hb' _).trans ?_
      simp only [hinc, bK_s]
    · obtain ⟨b', hb'⟩ := lp c2 hc2
      refine ⟨b', fun L => ?_⟩
      simp only [fE, joinC, e1, e2, bK_s, l1, l3, jK_e, gK_tt, pickO_t, condK_t, g1, fAddr_fptr, ldO_fptr, g2, g3, calM, mK_s, y1, z1, z3]
      refine (hb' _).trans ?_
      simp only [hinc, bK_s]
  · intro hc L
    have l3 := l2 i
    by_cases hi : i < n
    · rw [decide_eq_true hi] at l3
      have : b = false := by cases b <;> simp_all
      subst this
      simp only [fE, e1, e2, bK_s, l1, l3, jK_e, gK_tt, pickO_t, condK_f]
    · rw [decide_eq_false hi] at l3
      simp only [fE, e1, e2, bK_s, l1, l3, jK_e, gK_ft, pickO_f, condK_f]
/-- The head: how many there are. -/
theorem head_ok {m p : NV} {h0 h : H} (hbox : boxM false m h0 = some (p, h)) {x : Nat → NV} {n : Nat → Nat} (hp : ∀ k, k < 10 → k ≠ 7 → At p h k (x k) ∧ ∃ v, lenSl (x k) = some v ∧ ∀ c : Nat, leI v (.int .i64 (.ofNat c)) = some (.bool (decide (n k ≤ c)))) :
    ∃ b, (∀ K, headS K [m] h0 = K p (.bool b) h) ∧ (b = true → ∀ k, k < 10 → k ≠ 7 → n k ≤ 100) := by
  obtain ⟨⟨a0, f0, g0⟩, v0, l0, c0⟩ := hp 0 (by decide) (by decide)
  obtain ⟨⟨a1, f1, g1⟩, v1, l1, c1⟩ := hp 1 (by decide) (by decide)
  obtain ⟨⟨a2, f2, g2⟩, v2, l2, c2⟩ := hp 2 (by decide) (by decide)
  obtain ⟨⟨a3, f3, g3⟩, v3, l3, c3⟩ := hp 3 (by decide) (by decide)
  obtain ⟨⟨a4, f4, g4⟩, v4, l4, c4⟩ := hp 4 (by decide) (by decide)
  obtain ⟨⟨a5, f5, g5⟩, v5, l5, c5⟩ := hp 5 (by decide) (by decide)
  obtain ⟨⟨a6, f6, g6⟩, v6, l6, c6⟩ := hp 6 (by decide) (by decide)
  obtain ⟨⟨a8, f8, g8⟩, v8, l8, c8⟩ := hp 8 (by decide) (by decide)
  obtain ⟨⟨a9, f9, g9⟩, v9, l9, c9⟩ := hp 9 (by decide) (by decide)
  have d0 := c0 100
  have d1 := c1 100
  have d2 := c2 50
  have d3 := c3 100
  have d4 := c4 100
  have d5 := c5 50
  have d6 := c6 100
  have d8 := c8 50
  have d9 := c9 50
  have no : ∀ {Q : Prop}, (false = true → Q) := fun h => by cases h
  by_cases q0 : n 0 ≤ 100
  · rw [decide_eq_true q0] at d0
    by_cases q1 : n 1 ≤ 100
    · rw [decide_eq_true q1] at d1
      by_cases q2 : n 2 ≤ 50
      · rw [decide_eq_true q2] at d2
        by_cases q3 : n 3 ≤ 100
        · rw [decide_eq_true q3] at d3
          by_cases q4 : n 4 ≤ 100
          · rw [decide_eq_true q4] at d4
            by_cases q5 : n 5 ≤ 50
            · rw [decide_eq_true q5] at d5
              by_cases q6 : n 6 ≤ 100
              · rw [decide_eq_true q6] at d6
                by_cases q8 : n 8 ≤ 50
                · rw [decide_eq_true q8] at d8
                  by_cases q9 : n 9 ≤ 50
                  · rw [decide_eq_true q9] at d9
                    refine ⟨true, fun K => by simp only [headS, uc_c, un_n, hbox, mK_s, bK_s, jK_e, gK_tt, pickO_t, f0, g0, l0, d0, f1, g1, l1, d1, f2, g2, l2, d2, f3, g3, l3, d3, f4, g4, l4, d4, f5, g5, l5, d5, f6, g6, l6, d6, f8, g8, l8, d8, f9, g9, l9, d9], fun _ k hk h7 => ?_⟩
                    rcases (show k = 0 ∨ k = 1 ∨ k = 2 ∨ k = 3 ∨ k = 4 ∨ k = 5 ∨ k = 6 ∨ k = 8 ∨ k = 9 by omega) with rfl | rfl | rfl | rfl | rfl | rfl | rfl | rfl | rfl <;> omega
                  · rw [decide_eq_false q9] at d9
                    exact ⟨false, fun K => by simp only [headS, uc_c, un_n, hbox, mK_s, bK_s, jK_e, gK_tt, pickO_t, f0, g0, l0, d0, f1, g1, l1, d1, f2, g2, l2, d2, f3, g3, l3, d3, f4, g4, l4, d4, f5, g5, l5, d5, f6, g6, l6, d6, f8, g8, l8, d8, f9, g9, l9, d9], no⟩
                · rw [decide_eq_false q8] at d8
                  exact ⟨false, fun K => by simp only [headS, uc_c, un_n, hbox, mK_s, bK_s, jK_e, gK_tt, gK_ft, pickO_t, pickO_f, f0, g0, l0, d0, f1, g1, l1, d1, f2, g2, l2, d2, f3, g3, l3, d3, f4, g4, l4, d4, f5, g5, l5, d5, f6, g6, l6, d6, f8, g8, l8, d8], no⟩
              · rw [decide_eq_false q6] at d6
                exact ⟨false, fun K => by simp only [headS, uc_c, un_n, hbox, mK_s, bK_s, jK_e, gK_tt, gK_ft, pickO_t, pickO_f, f0, g0, l0, d0, f1, g1, l1, d1, f2, g2, l2, d2, f3, g3, l3, d3, f4, g4, l4, d4, f5, g5, l5, d5, f6, g6, l6, d6], no⟩
            · rw [decide_eq_false q5] at d5
              exact ⟨false, fun K => by simp only [headS, uc_c, un_n, hbox, mK_s, bK_s, jK_e, gK_tt, gK_ft, pickO_t, pickO_f, f0, g0, l0, d0, f1, g1, l1, d1, f2, g2, l2, d2, f3, g3, l3, d3, f4, g4, l4, d4, f5, g5, l5, d5], no⟩
          · rw [decide_eq_false q4] at d4
            exact ⟨false, fun K => by simp only [headS, uc_c, un_n, hbox, mK_s, bK_s, jK_e, gK_tt, gK_ft, pickO_t, pickO_f, f0, g0, l0, d0, f1, g1, l1, d1, f2, g2, l2, d2, f3, g3, l3, d3, f4, g4, l4, d4], no⟩
        · rw [decide_eq_false q3] at d3
          exact ⟨false, fun K => by simp only [headS, uc_c, un_n, hbox, mK_s, bK_s, jK_e, gK_tt, gK_ft, pickO_t, pickO_f, f0, g0, l0, d0, f1, g1, l1, d1, f2, g2, l2, d2, f3, g3, l3, d3], no⟩
      · rw [decide_eq_false q2] at d2
        exact ⟨false, fun K => by simp only [headS, uc_c, un_n, hbox, mK_s, bK_s, jK_e, gK_tt, gK_ft, pickO_t, pickO_f, f0, g0, l0, d0, f1, g1, l1, d1, f2, g2, l2, d2], no⟩
    · rw [decide_eq_false q1] at d1
      exact ⟨false, fun K => by simp only [headS, uc_c, un_n, hbox, mK_s, bK_s, jK_e, gK_tt, gK_ft, pickO_t, pickO_f, f0, g0, l0, d0, f1, g1, l1, d1], no⟩
  · rw [decide_eq_false q0] at d0
    exact ⟨false, fun K => by simp only [headS, uc_c, un_n, hbox, mK_s, bK_s, jK_e, gK_ft, pickO_f, f0, g0, l0, d0], no⟩
/-- What a module is, as far as it is asked. -/
structure MS (x : Nat → NV) (n : Nat → Nat) : Prop where
  t : FS 2 QT (x 0) (n 0)
  i : FS 13 QI (x 1) (n 1)
  f : FS 3 QF (x 2) (n 2)
  t3 : LS (x 3) (n 3)
  m : LS (x 4) (n 4)
  g : FS 3 QG (x 5) (n 5)
  ex : FS 3 QX (x 6) (n 6)
  e : FS 5 QE (x 8) (n 8)
  d : FS 4 QD (x 9) (n 9)
theorem loop_to {F : NF 3 → NF 3} {J : NF 2} {p : NV} {h : H} {n : Nat} {b : Bool}
    (hF : ∀ (i : Nat) (b : Bool), (b = true ∧ i < n → ∃ b', ∀ L : NF 3, F L p (.bool b) (.int .i64 (.ofNat i)) h = L p (.bool b') (.int .i64 (.ofNat (i + 1))) h) ∧ (¬ (b = true ∧ i < n) → ∀ L : NF 3, F L p (.bool b) (.int .i64 (.ofNat i)) h = J p (.bool b) h))
    (hb : b = true → n ≤ 100) (hJ : ∀ b', (b' = true → b = true) → ∃ c, J p (.bool b') h = some (.bool c, h)) : ∃ c, loopC 100000 3 F p (.bool b) (.int .i64 (.ofNat 0)) h = some (.bool c, h) := by
  obtain ⟨b', e, j⟩ := loop_ok hF 100000 0 b (by omega) (fun e => by have := hb e; omega) (by omega)
  obtain ⟨c, k⟩ := hJ b' j
  exact ⟨c, e.trans k⟩
theorem toT {call : CallF} {J : NF 2} {p : NV} {h : H} {x : NV} {n : Nat} {b : Bool} (hp : At p h 0 x) (hs : FS 2 QT x n) (hb : b = true → n ≤ 100) (hJ : ∀ b', (b' = true → b = true) → ∃ c, J p (.bool b') h = some (.bool c, h)) :
    ∃ c, loopC 100000 3 (fT call J) p (.bool b) (.int .i64 (.ofNat 0)) h = some (.bool c, h) := loop_to (stepT hp hs) hb hJ
theorem toI {call : CallF} {J : NF 2} {p : NV} {h : H} {x : NV} {n : Nat} {b : Bool} (hp : At p h 1 x) (hs : FS 13 QI x n) (hb : b = true → n ≤ 100) (hJ : ∀ b', (b' = true → b = true) → ∃ c, J p (.bool b') h = some (.bool c, h)) :
    ∃ c, loopC 100000 3 (fI call J) p (.bool b) (.int .i64 (.ofNat 0)) h = some (.bool c, h) := loop_to (stepI hp hs) hb hJ
theorem toX {call : CallF} {J : NF 2} {p : NV} {h : H} {x : NV} {n : Nat} {b : Bool} (hp : At p h 6 x) (hs : FS 3 QX x n) (hb : b = true → n ≤ 100) (hJ : ∀ b', (b' = true → b = true) → ∃ c, J p (.bool b') h = some (.bool c, h)) :
    ∃ c, loopC 100000 3 (fX call J) p (.bool b) (.int .i64 (.ofNat 0)) h = some (.bool c, h) := loop_to (stepX hp hs) hb hJ
theorem toF {call : CallF} {J : NF 2} {p : NV} {h : H} {x : NV} {n : Nat} {b : Bool} (hfew : ∀ x, WS x → ∃ b, call 9 [x] h = some (.bool b, h)) (hp : At p h 2 x) (hs : FS 3 QF x n) (hb : b = true → n ≤ 100) (hJ : ∀ b', (b' = true → b = true) → ∃ c, J p (.bool b') h = some (.bool c, h)) :
    ∃ c, loopC 100000 3 (fF call J) p (.bool b) (.int .i64 (.ofNat 0)) h = some (.bool c, h) := loop_to (stepF hfew hp hs) hb hJ
theorem toG {call : CallF} {J : NF 2} {p : NV} {h : H} {x : NV} {n : Nat} {b : Bool} (hfew : ∀ x, WS x → ∃ b, call 9 [x] h = some (.bool b, h)) (hp : At p h 5 x) (hs : FS 3 QG x n) (hb : b = true → n ≤ 100) (hJ : ∀ b', (b' = true → b = true) → ∃ c, J p (.bool b') h = some (.bool c, h)) :
    ∃ c, loopC 100000 3 (fG call J) p (.bool b) (.int .i64 (.ofNat 0)) h = some (.bool c, h) := loop_to (stepG hfew hp hs) hb hJ
theorem toE {call : CallF} {J : NF 2} {p : NV} {h : H} {x : NV} {n : Nat} {b : Bool} (hfew : ∀ x, WS x → ∃ b, call 9 [x] h = some (.bool b, h)) (hp : At p h 8 x) (hs : FS 5 QE x n) (hb : b = true → n ≤ 100) (hJ : ∀ b', (b' = true → b = true) → ∃ c, J p (.bool b') h = some (.bool c, h)) :
    ∃ c, loopC 100000 3 (fE call 100000 J) p (.bool b) (.int .i64 (.ofNat 0)) h = some (.bool c, h) := loop_to (stepE hfew hp hs) hb hJ
theorem fits_ok {call : CallF} {m p : NV} {h0 h : H} (hbox : boxM false m h0 = some (p, h)) {x : Nat → NV} {n : Nat → Nat} (hx : MS x n) (hp : ∀ k, k < 10 → k ≠ 7 → At p h k (x k)) (hfew : ∀ x, WS x → ∃ b, call 9 [x] h = some (.bool b, h)) :
    ∃ b, S5 call 100000 [m] h0 = some (.bool b, h) := by
  obtain ⟨b0, k0, kb⟩ := head_ok hbox (x := x) (n := n) fun k hk h7 => ⟨hp k hk h7, by
    rcases (show k = 0 ∨ k = 1 ∨ k = 2 ∨ k = 3 ∨ k = 4 ∨ k = 5 ∨ k = 6 ∨ k = 8 ∨ k = 9 by omega) with rfl | rfl | rfl | rfl | rfl | rfl | rfl | rfl | rfl
    · exact hx.t.len2
    · exact hx.i.len2
    · exact hx.f.len2
    · exact hx.t3.le
    · exact hx.m.le
    · exact hx.g.len2
    · exact hx.ex.len2
    · exact hx.e.len2
    · exact hx.d.len2⟩
  rw [S5_eq, k0]
  refine toT (hp 0 (by decide) (by decide)) hx.t (fun e => kb e 0 (by decide) (by decide)) fun b1 j1 => ?_
  refine toI (hp 1 (by decide) (by decide)) hx.i (fun e => kb (j1 e) 1 (by decide) (by decide)) fun b2 j2 => ?_
  refine toX (hp 6 (by decide) (by decide)) hx.ex (fun e => kb (j1 (j2 e)) 6 (by decide) (by decide)) fun b3 j3 => ?_
  refine toF hfew (hp 2 (by decide) (by decide)) hx.f (fun e => kb (j1 (j2 (j3 e))) 2 (by decide) (by decide)) fun b4 j4 => ?_
  refine toG hfew (hp 5 (by decide) (by decide)) hx.g (fun e => kb (j1 (j2 (j3 (j4 e)))) 5 (by decide) (by decide)) fun b5 j5 => ?_
  refine toE hfew (hp 8 (by decide) (by decide)) hx.e (fun e => kb (j1 (j2 (j3 (j4 (j5 e))))) 8 (by decide) (by decide)) fun b6 j6 => ?_
  obtain ⟨b7, e7⟩ := loopD_ok (stepD (call := call) (J := fun v h => retC v h) hfew (hp 9 (by decide) (by decide)) hx.d) 100000 0 b6 (by omega) (fun e => by have := kb (j1 (j2 (j3 (j4 (j5 (j6 e)))))) 9 (by decide) (by decide); omega) (by omega)
  exact ⟨b7, e7⟩
end
end Go.Proofs.YtoikhmpgaihiaaaGreatDoor
