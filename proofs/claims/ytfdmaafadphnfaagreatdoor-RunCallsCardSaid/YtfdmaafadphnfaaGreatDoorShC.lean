/- Calls that hang on numbers and strings alone; the model's own answers for functions without a body; the heap with which a call begins. -/
import Derived.Test.YtfdmaafadphnfaaGreatDoorShB
import Derived.Lib.Bytealg
import Derived.Laws.Externs
import Derived.Lib.LaidTab
import Derived.Lib.LaidU8
import Derived.Lib.LaidIn
import Derived.Deep.DeepHandedRow
import Derived.Deep.DeepWitnessRowRef
import Derived.ProofKit
import Derived.OpenShut
import Derived.ChangeSame
import Derived.WideKeyArgs
import Derived.Conc.MuLone
set_option linter.unusedVariables false
set_option linter.unusedSectionVars false
set_option maxRecDepth 100000
namespace Go.Ne
open Go Go.RowKit
variable [Sig]
/-! ### The combinators at what is known -/
theorem bK_s (v : NV) (k : NV → R) : bK (some v) k = k v := rfl
theorem mK_s (v : NV) (h : H) (k : NV → H → R) : mK (some (v, h)) k = k v h := rfl
theorem condK_t (a b : R) : condK (.bool true) a b = a := rfl
theorem condK_f (a b : R) : condK (.bool false) a b = b := rfl
theorem gK_tt (a b : R) : gK (.bool true) true a b = a := rfl
theorem gK_tf (a b : R) : gK (.bool true) false a b = b := rfl
theorem gK_ft (a b : R) : gK (.bool false) true a b = b := rfl
theorem gK_ff (a b : R) : gK (.bool false) false a b = a := rfl
theorem gK_u (w : Bool) (a b : R) : gK (.tuple []) w a b = b := rfl
theorem pickO_t (a b : NV) : pickO (.bool true) a b = some a := rfl
theorem pickO_f (a b : NV) : pickO (.bool false) a b = some b := rfl
theorem uc_c (v : NV) (l : List NV) (k : NV → List NV → R) : uc (v :: l) k = k v l := rfl
theorem un_n (r : R) : un [] r = r := rfl
theorem jK_e (F : NV → H → R) (body : (NV → H → R) → R) : jK F body = body F := rfl
theorem notB_t : notB true = false := rfl
theorem notB_f : notB false = true := rfl

/-- No name of a block stands in a value. -/
def scal (v : NV) : Bool := okNames 0 20 v
theorem scal_ok {v : NV} (h : scal v = true) {ρ ρ' : Rho} {v' : Value} (hv : VR ρ v v') : VR ρ' v v' :=
  (okNames_ok 20 hv h).mono fun p x e => by
    have := (Rho.below_some e).1
    omega
theorem scalL_ok : ∀ {l : List NV} {l' : List Value} {ρ ρ' : Rho}, l.all scal = true → VRL ρ l l' → VRL ρ' l l'
  | _, _, _, _, _, .nil => .nil
  | _, _, _, _, h, .cons _ _ _ _ hv hl => by
    simp only [List.all_cons, Bool.and_eq_true] at h
    exact .cons _ _ _ _ (scal_ok h.1 hv) (scalL_ok h.2 hl)

section
variable {C : Ctx} {w0 : World}
/-- What a heap of package-level variables that nobody writes is to the world in which all began, it is to each later one. -/
theorem HR.later {ρg : Rho} {hg : H} (G : HR w0 C.ng ρg hg w0) (hro : ∀ p b, hg.rd p = some b → isRo b = true) {w : World} (hb : Below w0.heap.size w0 w) : HR w0 C.ng ρg hg w where
  below := hb
  blk := fun p b e => by
    obtain ⟨β, D, o, e1, e2, e3, e4⟩ := G.blk p b e
    refine ⟨β, D, o, e1, ?_, e3, fun h => by rw [hro p b e] at h; cases h⟩
    rw [hb.block β (lt_of_some e2)]
    exact e2
  inj := fun p q b b' β D D' h1 h2 h3 => by rw [hro p b h1] at h3; cases h3
  dom := fun p x e => ⟨(G.dom p x e).1, Nat.lt_of_lt_of_le (G.dom p x e).2 hb.size⟩
  glob := G.glob
  frz := G.frz
/-- A call of numbers and strings that answers with such, run over the package-level variables alone, answers so over any heap, and leaves it. -/
theorem pure_call {call : CallF} (hcall : CallOK C w0 call) {ρg : Rho} {hg : H} (G : HR w0 C.ng ρg hg w0) (hro : ∀ p b, hg.rd p = some b → isRo b = true) {g : FuncId} {args : List NV} {v : NV} {h1 : H} (hc : call g args hg = some (v, h1))
    (ha : args.all scal = true) (hv : scal v = true) (h : H) : Says C w0 g args h v h := by
  intro ρ w args' r hargs
  have Gw := HR.later G hro r.below
  have noOwn : ∀ β, ¬ Own ρg hg β := fun β ⟨p, b, D, k1, k2, k3⟩ => by rw [hro p b k1] at k2; cases k2
  rcases hcall ρg hg w g args args' v h1 Gw (scalL_ok ha hargs) hc with ⟨k1, k2⟩ | ⟨v', k1, _, k2⟩
  · refine .inl ⟨k1, Calls.mono k2 ?_⟩
    rintro e w' ⟨v', ρ', rfl, q1, q2, q3⟩
    have keep : ∀ (β : Nat) (o : Obj), w.heap[β]? = some o → w'.heap[β]? = some o := fun β o e => q2.frame β o e (noOwn β)
    refine ⟨v', ρ, rfl, ⟨q1.below, fun p b e => ?_, r.inj, fun p x e => ?_, r.glob, r.frz⟩, ⟨ρ.le_refl, fun p x a b => by (rw [a] at b; cases b), Nat.le_refl _, q2.grow, fun β o e _ => keep β o e, fun β o => .inl o⟩, scal_ok hv q3⟩
    · obtain ⟨β, D, o, e1, e2, e3, e4⟩ := r.blk p b e
      exact ⟨β, D, o, e1, keep β o e2, e3, e4⟩
    · exact ⟨(r.dom p x e).1, Nat.lt_of_lt_of_le (r.dom p x e).2 q2.grow⟩
  · exact .inr ⟨v', k1, rfl, scal_ok hv k2⟩

/-- Answers listed. -/
def oL (tbl : List (List NV × NV)) (l : List NV) : Option NV := match tbl with
  | [] => none
  | x :: r => match beqL (beqV 20) x.1 l with
    | true => some x.2
    | false => oL r l
theorem oL_some : ∀ {tbl : List (List NV × NV)} {l : List NV} {v : NV}, oL tbl l = some v → (l, v) ∈ tbl
  | [], l, v, h => by cases h
  | x :: r, l, v, h => by
    simp only [oL] at h
    split at h
    · rename_i hb
      cases h
      rw [← beqL_eq (fun _ _ => beqV_eq 20) hb]
      simp
    · exact List.mem_cons_of_mem _ (oL_some h)
theorem oL_ok {g : FuncId} {tbl : List (List NV × NV)} (ht : ∀ x ∈ tbl, ∀ h, Says C w0 g x.1 h x.2 h) : ∀ args v, oL tbl args = some v → ∀ h, Says C w0 g args h v h :=
  fun args v hv h => ht (args, v) (oL_some hv) h

/-! ### Without a body -/
def findB (a c : Nat) : Nat → Nat → Option Nat
  | 0, _ => none
  | n + 1, i => match Nat.beq (byteAt a i) c with
    | true => some i
    | false => findB a c n (Nat.succ i)
def countB (a c : Nat) : Nat → Nat → Nat → Nat
  | 0, _, k => k
  | n + 1, i, k => match Nat.beq (byteAt a i) c with
    | true => countB a c n (Nat.succ i) (Nat.succ k)
    | false => countB a c n (Nat.succ i) k
def extIB (l : List NV) : Option NV := match l with
  | [.str n a, .int .u8 (.ofNat c)] => match Nat.blt c 256 with
    | true => match findB a c n 0 with
      | some i => some (.int .i64 (.ofNat i))
      | none => some (.int .i64 (.negSucc 0))
    | false => none
  | _ => none
def extCS (l : List NV) : Option NV := match l with
  | [.str n a, .int .u8 (.ofNat c)] => match Nat.blt c 256 with
    | true => some (.int .i64 (.ofNat (countB a c n 0 0)))
    | false => none
  | _ => none
def extS (o : List NV → Option NV) : SF := fun _ _ l h => match o l with | some v => some (v, h) | none => none
theorem byteAt_get {l : List UInt8} {i : Nat} (h : i < l.length) : byteAt (leNat l) i = l[i].toNat := byteAt_leNat l i h
theorem toUInt8_eq {c : Nat} (hc : c < 256) (b : UInt8) : (b == (c : Int).toNat.toUInt8) = Nat.beq b.toNat c := by
  rw [Bool.eq_iff_iff]
  simp only [beq_iff_eq]
  constructor
  · rintro rfl
    simp
    omega
  · intro h
    apply UInt8.toNat_inj.1
    rw [Nat.eq_of_beq_eq_true h]
    simp
    omega
theorem findB_ok (l : List UInt8) {c : Nat} (hc : c < 256) : ∀ (n i : Nat), i + n = l.length → (match findB (leNat l) c n i with | some j => (j : Int) | none => -1) = (if Lib.indexByte (l.drop i) (c : Int).toNat.toUInt8 = -1 then -1 else (i : Int) + Lib.indexByte (l.drop i) (c : Int).toNat.toUInt8)
  | 0, i, h => by
    rw [List.drop_of_length_le (by omega)]
    simp [findB, Lib.indexByte]
  | n + 1, i, h => by
    have hi : i < l.length := by omega
    rw [List.drop_eq_getElem_cons hi]
    simp only [findB, Lib.indexByte, byteAt_get hi, toUInt8_eq hc]
    cases hb : Nat.beq l[i].toNat c with
    | true => simp
    | false =>
      simp only [Bool.false_eq_true, if_false]
      rw [findB_ok l hc n (i + 1) (by omega)]
      have hge := Lib.indexByte_ge (l.drop (i + 1)) (c : Int).toNat.toUInt8
      generalize Lib.indexByte (l.drop (i + 1)) (c : Int).toNat.toUInt8 = z at hge ⊢
      by_cases h1 : z = -1
      · subst h1; rfl
      · have h2 : (z == -1) = false := by simpa using h1
        rw [h2]
        simp only [Bool.false_eq_true, if_false]
        rw [if_neg h1, if_neg (by omega)]
        omega
theorem countB_ok (l : List UInt8) {c : Nat} (hc : c < 256) : ∀ (n i k : Nat), i + n = l.length → countB (leNat l) c n i k = k + Lib.countByte (l.drop i) (c : Int).toNat.toUInt8
  | 0, i, k, h => by
    rw [List.drop_of_length_le (by omega)]
    simp [countB, Lib.countByte]
  | n + 1, i, k, h => by
    have hi : i < l.length := by omega
    rw [List.drop_eq_getElem_cons hi]
    simp only [countB, byteAt_get hi]
    have e : Lib.countByte (l[i] :: l.drop (i + 1)) (c : Int).toNat.toUInt8 = (if Nat.beq l[i].toNat c = true then 1 else 0) + Lib.countByte (l.drop (i + 1)) (c : Int).toNat.toUInt8 := by
      unfold Lib.countByte
      rw [List.count_cons, toUInt8_eq hc]
      omega
    rw [e]
    cases hb : Nat.beq l[i].toNat c with
    | true => simp only [if_true]; rw [countB_ok l hc n (i + 1) (k + 1) (by omega)]; omega
    | false => simp only [Bool.false_eq_true, if_false]; rw [countB_ok l hc n (i + 1) k (by omega)]; omega
theorem VRL.two {ρ : Rho} {a b : NV} {l' : List Value} (h : VRL ρ [a, b] l') : ∃ a' b', l' = [a', b'] ∧ VR ρ a a' ∧ VR ρ b b' := by
  cases h with | cons _ a' _ l1 h1 h2 => cases h2 with | cons _ b' _ l2 h3 h4 => cases h4; exact ⟨a', b', rfl, h1, h3⟩
theorem extIB_ok {g : FuncId} {fn : Func} (hf : C.P.funcs[g]? = some fn) (hname : (fn.name == "runtime.NumGoroutine") = false) (hb : fn.body.isNone = true) (hn : Extern.findNext fn = none) (he : Extern.find fn = some Extern.BytealgIndexByte.indexByte) : SOK C w0 g (extS extIB) := by
  refine ext_ok (o := extIB) ?_
  intro args v hv ρ w args' hargs
  unfold extIB at hv
  split at hv
  · rename_i n a c
    split at hv
    · rename_i hc
      have hc : c < 256 := by simpa using hc
      obtain ⟨a', b', rfl, h1, h2⟩ := hargs.two
      obtain ⟨s, rfl, rfl, rfl⟩ := h1.str_inv
      obtain rfl := h2.int_inv
      refine ⟨.int .i64 (Lib.indexByte s.data.toList (c : Int).toNat.toUInt8), ?_, ?_⟩
      · rw [run_callFunc_extern hf hname hb hn he]
        have := Lib.run_indexByteString (P := C.P) s (c : Int) w
        show Result.andThen ((Extern.BytealgIndexByte.indexByte #[.string s, .int .u8 (c : Int)]).run C.P w) _ = _
        rw [this]
        rfl
      · have k := findB_ok s.data.toList hc s.size 0 (by simp)
        rw [List.drop_zero] at k
        have e : (if Lib.indexByte s.data.toList (c : Int).toNat.toUInt8 = -1 then (-1 : Int) else ((0 : Nat) : Int) + Lib.indexByte s.data.toList (c : Int).toNat.toUInt8) = Lib.indexByte s.data.toList (c : Int).toNat.toUInt8 := by
          split
          · rename_i h; rw [h]
          · simp
        rw [e] at k
        rw [← k]
        split at hv
        · cases hv; exact .int _ _
        · cases hv; exact .int _ _
    · cases hv
  · cases hv
theorem extCS_ok {g : FuncId} {fn : Func} (hf : C.P.funcs[g]? = some fn) (hname : (fn.name == "runtime.NumGoroutine") = false) (hb : fn.body.isNone = true) (hn : Extern.findNext fn = none) (he : Extern.find fn = some Extern.BytealgCount.count) : SOK C w0 g (extS extCS) := by
  refine ext_ok (o := extCS) ?_
  intro args v hv ρ w args' hargs
  unfold extCS at hv
  split at hv
  · rename_i n a c
    split at hv
    · rename_i hc
      have hc : c < 256 := by simpa using hc
      obtain ⟨a', b', rfl, h1, h2⟩ := hargs.two
      obtain ⟨s, rfl, rfl, rfl⟩ := h1.str_inv
      obtain rfl := h2.int_inv
      cases hv
      refine ⟨.int .i64 (Lib.countByte s.data.toList (c : Int).toNat.toUInt8), ?_, ?_⟩
      · rw [run_callFunc_extern hf hname hb hn he]
        have := Lib.run_countString (P := C.P) s (c : Int) w
        show Result.andThen ((Extern.BytealgCount.count #[.string s, .int .u8 (c : Int)]).run C.P w) _ = _
        rw [this]
        rfl
      · have k := countB_ok s.data.toList hc s.size 0 0 (by simp)
        rw [List.drop_zero, Nat.zero_add] at k
        rw [← k]
        exact .int _ _
    · cases hv
  · cases hv

/-! ### The beginning -/
/-- Package-level variables that are read alone. -/
noncomputable def roHeap (next : Pos) : List (Nat × List NV) → H
  | [] => ⟨next, .e, none⟩
  | (g, l) :: r => updF (roHeap next r) (gkey g) (some (.ro l))
theorem roHeap_next (next : Pos) : ∀ l, (roHeap next l).next = next
  | [] => rfl
  | (g, l) :: r => by simp only [roHeap, updF_eq, H.next_upd, roHeap_next next r]
theorem roHeap_rd (next : Pos) : ∀ (r : List (Nat × List NV)) (p : Pos) (b : NB), (roHeap next r).rd p = some b → ∃ g l, (g, l) ∈ r ∧ p = gkey g ∧ b = .ro l
  | [], p, b, h => by simp only [roHeap, H.rd, PT.get_e, reduceCtorEq] at h
  | (g, l) :: r, p, b, h => by
    simp only [roHeap, updF_eq] at h
    rw [H.rd_upd] at h
    split at h
    · rename_i e; cases h; exact ⟨g, l, by simp, e.symm, rfl⟩
    · obtain ⟨g', l', h1, h2, h3⟩ := roHeap_rd next r p b h
      exact ⟨g', l', by simp [h1], h2, h3⟩
theorem roHeap_ro (next : Pos) (r : List (Nat × List NV)) (p : Pos) (b : NB) (h : (roHeap next r).rd p = some b) : isRo b = true := by
  obtain ⟨g, l, _, _, rfl⟩ := roHeap_rd next r p b h
  rfl
/-- Which package-level variable a name is. -/
def gOf (n : Nat) (p : Pos) : Option Nat := match p.toNat with
  | 0 => none
  | k + 1 => if k < n then some k else none
theorem begin_ok {W : World} {next : Pos} {r : List (Nat × List NV)} (hz : FzOK W) (hn : C.ng < next.toNat) (hsz : C.ng ≤ W.heap.size) (hr : ∀ x ∈ r, x.1 < C.ng ∧ ∃ c t fr, W.heap[x.1]? = some (.cells c t fr) ∧ fr.1 = fr.2 ∧ x.2.length ≤ c.size ∧ ∀ (ρ : Rho) (i : Nat) v, x.2[i]? = some v → ∃ v', c[i]? = some v' ∧ VR ρ v v') :
    ∃ ρ, HR W C.ng ρ (roHeap next r) W := by
  let ρ : Rho := fun p => match gOf C.ng p with
    | some g => some (g, match W.heap[g]? with | some (.cells c _ _) => c.size | _ => 0)
    | none => none
  have hρ : ∀ g, g < C.ng → ρ (gkey g) = some (g, match W.heap[g]? with | some (.cells c _ _) => c.size | _ => 0) := by
    intro g hg
    have : gOf C.ng (gkey g) = some g := by
      unfold gOf gkey
      rw [key_toNat]
      simp only
      rw [if_pos hg]
    simp only [ρ, this]
  refine ⟨ρ, Below.refl _ _, fun p b e => ?_, fun p q b b' β D D' h1 h2 h3 => ?_, fun p x e => ?_, fun g hg => ⟨_, hρ g hg⟩, hz⟩
  · obtain ⟨g, l, h1, rfl, rfl⟩ := roHeap_rd next r p b e
    obtain ⟨hg, c, t, fr, e1, e2, e3, e4⟩ := hr _ h1
    refine ⟨g, c.size, .cells c t fr, ?_, e1, ⟨⟨rfl, e3, fun i v hv => e4 ρ i v hv⟩, e2⟩, fun h => by cases h⟩
    rw [hρ g hg, e1]
  · rw [roHeap_ro next r p b h1] at h3; cases h3
  · rw [roHeap_next]
    simp only [ρ] at e
    split at e
    · rename_i g hg
      cases e
      unfold gOf at hg
      split at hg
      · cases hg
      · rename_i k hk
        split at hg
        · rename_i hlt; cases hg; exact ⟨by omega, by simp only; omega⟩
        · cases hg
    · cases e
end
end Go.Ne
/- What a row's listed variables give, block by block. -/
namespace Go.Ne
open Go Go.RowKit Go.Lib
variable [Sig]
theorem laidVars_mem {P : Program} {w : World} : ∀ {l : List (String × DataW Unit)} {ps : List MemPlace}, DataW.LaidVars P w l ps → ∀ {n : String} {d : DataW Unit}, (n, d) ∈ l →
    ∃ g t cs fuel p, P.globalNamed n = some g ∧ (P.globals[g]?).map (·.type) = some t ∧ w.var? P n = some cs ∧ DataW.trod (fun _ => ()) P w 0 (fun _ => true) false fuel t cs.toList = some (d, p) ∧ ∀ x ∈ MemPlace.row ⟨g, 0, none⟩ cs.size, x ∈ ps
  | [], _, _, _, _, hm => by cases hm
  | (n', d') :: r, ps, h, n, d, hm => by
    obtain ⟨g, t, cs, fuel, p, q, h1, h2, h3, h4, h5, rfl⟩ := h
    rcases List.mem_cons.1 hm with e | hm
    · cases e
      exact ⟨g, t, cs, fuel, p, h1, h2, h3, h4, fun x hx => by simp [hx]⟩
    · obtain ⟨g', t', cs', fuel', p', k1, k2, k3, k4, k5⟩ := laidVars_mem h5 hm
      exact ⟨g', t', cs', fuel', p', k1, k2, k3, k4, fun x hx => by simp [k5 x hx]⟩
/-- A listed variable's block. -/
theorem laid_block {P : Program} {w : World} {l : List (String × DataW Unit)} (h : laidMet P l w) {n : String} {d : DataW Unit} (hm : (n, d) ∈ l) {g : Nat} {t : TypeId} (hg : P.globalNamed n = some g) (ht : (P.globals[g]?).map (·.type) = some t) :
    ∃ cs fuel p, DataW.trod (fun _ => ()) P w 0 (fun _ => true) false fuel t cs.toList = some (d, p) ∧ (∃ ty fr, w.heap[g]? = some (.cells cs ty fr)) ∧ (0 < cs.size → ∃ ty, w.heap[g]? = some (.cells cs ty (0, 0))) := by
  obtain ⟨ps, hv, _, hf⟩ := h
  obtain ⟨g', t', cs, fuel, p, h1, h2, h3, h4, h5⟩ := laidVars_mem hv hm
  rw [hg] at h1; cases h1
  rw [ht] at h2; cases h2
  have hb : ∃ ty fr, w.heap[g]? = some (.cells cs ty fr) := by
    unfold World.var? at h3
    rw [hg] at h3
    simp only [Option.bind_some] at h3
    split at h3
    · rename_i c ty fr e; cases h3; exact ⟨ty, fr, e⟩
    · cases h3
  refine ⟨cs, fuel, p, h4, hb, fun hs => ?_⟩
  obtain ⟨ty, fr, e⟩ := hb
  obtain ⟨⟨c, ty', e'⟩, _⟩ := hf g 0 (h5 _ (by
    unfold MemPlace.row
    exact List.mem_map.2 ⟨0, by simpa using hs, by simp⟩))
  rw [e] at e'
  cases e'
  exact ⟨_, e⟩
/-- An array of strings that reads as such a list holds them, cell for cell. -/
theorem cells_of_strs {H : Type} {enc : TypeId × Value → H} {P : Program} {w : World} {base : Nat} {sp : Nat → Bool} {held : Bool} {fuel : Nat} {t e : TypeId} {n : Nat} {cs : List Value} {zs : List (List UInt8)} {p : List MemPlace}
    (ht : P.underlying t = some (.array n e)) (he : P.underlying e = some .string) (hce : P.cellsOf e = 1) (hct : P.cellsOf t = n)
    (h : DataW.trod enc P w base sp held fuel t cs = some (.agg (zs.map fun z => DataW.lit (Lit.string z)), p)) : ∀ (i : Nat) (z : List UInt8), zs[i]? = some z → ∃ s : ByteArray, cs[i]? = some (.string s) ∧ s.data.toList = z := by
  cases fuel with
  | zero => simp [DataW.trod] at h
  | succ fuel =>
    simp only [DataW.trod, ht, hce, hct, Nat.mul_one] at h
    split at h
    · rename_i hl
      obtain ⟨xs, hm, hx⟩ := Option.map_eq_some_iff.1 h
      have hxs : xs.map (·.1) = zs.map fun z => (DataW.lit (.string z) : DataW H) := by
        have := congrArg Prod.fst hx
        simpa using this
      have hxl : xs.length = n := by simpa using mapM_length hm
      have hzl : zs.length = n := by
        have := congrArg List.length hxs
        simp at this
        omega
      intro i z hz
      have hi : i < n := by
        rw [← hzl]
        exact (List.getElem?_eq_some_iff.1 hz).1
      obtain ⟨b, hb, hf⟩ := mapM_at hm i i (by simp [hi])
      obtain ⟨s, hc, rfl, _⟩ := DataW.trod_string he hf
      have h1 : cs[i]? = some (.string s) := by
        have := congrArg (·[0]?) hc
        simpa [List.getElem?_take, List.getElem?_drop] using this
      have h2 : (xs.map (·.1))[i]? = some (DataW.lit (.string s.data.toList) : DataW H) := by simp [hb]
      rw [hxs] at h2
      simp only [List.getElem?_map, Option.map_eq_some_iff, DataW.lit.injEq, Lit.string.injEq] at h2
      obtain ⟨z', hz', e⟩ := h2
      rw [hz] at hz'
      cases hz'
      exact ⟨s, h1, e.symm⟩
    · cases h
end Go.Ne
/- What the laws share: an input reads behind the call as it did; the law's last step. -/
namespace Go.Ne
open Go Go.ChangeShapes Go.WideShapes Go.ChangeAt Go.RowKit
section
variable {H : Type} {enc : TypeId × Value → H} {P : Program}
theorem stays_all (hl : laidOutB P = true) {W W' : World} {sp' : Nat → Bool} : ∀ {ts : List TypeId} {vs : List Value} {ds : List (DataW H)} {ps : List MemPlace}, (∀ t ∈ ts, P.readableRec t = true ∧ t < P.types.size) →
    DataW.TrodAll enc P W 0 (fun _ => true) true ts vs ds ps → (∀ p ∈ ps, W.sameAt W' p) → (∀ p ∈ ps, sp' p.block = true) → DataW.TrodAll enc P W' 0 sp' true ts vs ds ps
  | [], [], [], _, _, h, _, _ => h
  | _ :: _, _ :: _, _ :: _, _, hT, ⟨p, q, h1, h2, e⟩, hm, hs =>
    ⟨p, q, WideElems.Trod_stays hl (hT _ (List.mem_cons.2 (Or.inl rfl))).1 (hT _ (List.mem_cons.2 (Or.inl rfl))).2 h1 (fun x hx => hm x (by rw [e]; exact List.mem_append_left _ hx)) (fun x hx => hs x (by rw [e]; exact List.mem_append_left _ hx)),
      stays_all hl (fun t ht => hT t (List.mem_cons.2 (Or.inr ht))) h2 (fun x hx => hm x (by rw [e]; exact List.mem_append_right _ hx)) (fun x hx => hs x (by rw [e]; exact List.mem_append_right _ hx)), e⟩
theorem post_of_below {f : Func} {s : ChangeSpec} {apart fresh handsOn again : Bool} {W W' : World} {args : Array Value} {v : Value} {ds gs : List (DataW H)} {before pa pv : List MemPlace}
    (hW : DataW.Whole enc P f.params.toList s.vars apart W args.toList ds gs before)
    (hres : ∀ (b : Nat) (sp : Nat → Bool) (hd : Bool), DataW.TrodAll enc P W' b sp hd f.resultTypes.toList (v.resultList f.resultTypes.size) (s.fn H (ds ++ gs)).results [])
    (hargs : ∀ sp : Nat → Bool, (∀ p ∈ before, sp p.block = true) → DataW.TrodAll enc P W' 0 sp true f.params.toList args.toList (s.fn H (ds ++ gs)).args pa)
    (hvars : ∀ sp : Nat → Bool, (∀ p ∈ before, sp p.block = true) → DataW.TrodVars enc P W' sp s.vars (s.fn H (ds ++ gs)).vars pv)
    (hps : before = pa ++ pv) (hb : Below W.heap.size W W')
    (hok : ∀ (j : Nat) (t : TypeId) (r : Value), f.resultTypes[j]? = some t → (v.resultList f.resultTypes.size)[j]? = some r → Value.okWide P W' .any 0 t r) :
    s.post enc P f apart fresh handsOn again W args v W' := by
  have hlt : ∀ p ∈ before, p.block < W.heap.size := fun p hp => hW.lt p hp
  have hold : ∀ p ∈ before, (fun b => decide (b < W.heap.size)) p.block = true := fun p hp => by simpa using hlt p hp
  refine ⟨ds, gs, before, [], pa, pv, hW, hres _ _ _, hargs _ hold, hvars _ hold, World.keptBut_mono (fun p hp => ⟨hp, ?_⟩) (hb.frame (· ∈ before)), fun _ => ?_⟩
  · rw [hps, List.mem_append] at hp
    exact Or.inr hp
  · obtain ⟨_, _, _, _, _, hz, hn⟩ := hW
    refine ⟨hok, _, _, ([] ++ pa) ++ pv, ⟨[] ++ pa, pv, trodAll_append (hargs _ (fun _ _ => rfl)) (hres _ _ _), hvars _ (fun _ _ => rfl), rfl, ?_, ?_⟩, ?_⟩
    · intro b off hp
      have hin : MemPlace.cell b off ∈ before := by rw [hps]; simpa using hp
      have hf : W'.frozen? ⟨b, off, none⟩ = W.frozen? ⟨b, off, none⟩ := hb.frozen (hlt _ hin)
      rw [hf]
      exact hz b off hin
    · intro ha
      have := hn ha
      rw [hps] at this
      simpa using this
    · intro p hp _
      rw [hps]
      simpa using hp
/-- A law that writes nothing of what was there: its input reads behind the call as it did. -/
theorem law_post (hl : laidOutB P = true) {f : Func} {s : ChangeSpec} {apart fresh handsOn again : Bool} {W W' : World} {args : Array Value} {v : Value} {ds : List (DataW H)} {before : List MemPlace}
    (hsv : s.vars = []) (hT : ∀ t ∈ f.params.toList, P.readableRec t = true ∧ t < P.types.size)
    (hW : DataW.Whole enc P f.params.toList s.vars apart W args.toList ds [] before) (hA : DataW.TrodAll enc P W 0 (fun _ => true) true f.params.toList args.toList ds before)
    (hres : ∀ (b : Nat) (sp : Nat → Bool) (hd : Bool), DataW.TrodAll enc P W' b sp hd f.resultTypes.toList (v.resultList f.resultTypes.size) (s.fn H (ds ++ [])).results [])
    (hsa : (s.fn H (ds ++ [])).args = ds) (hsv2 : (s.fn H (ds ++ [])).vars = []) (hb : Below W.heap.size W W')
    (hok : ∀ (j : Nat) (t : TypeId) (r : Value), f.resultTypes[j]? = some t → (v.resultList f.resultTypes.size)[j]? = some r → Value.okWide P W' .any 0 t r) :
    s.post enc P f apart fresh handsOn again W args v W' :=
  post_of_below (pa := before) (pv := []) hW hres (fun sp hs => by rw [hsa]; exact stays_all hl hT hA (fun p hp => hb.same (hW.lt p hp)) hs) (fun sp hs => by rw [hsv2, hsv]; rfl) (by simp) hb hok
end

/-! ### Values of two kinds -/
theorem wf_int {k : IntKind} {n : Int} (h : (Lit.int k n).wf = true) : k.min ≤ n ∧ n ≤ k.max := by
  simpa [Lit.wf] using h
theorem take_one {cs : List Value} {c : Nat} {i : Nat} {v : Value} (h1 : c = 1) (h : cs[i]? = some v) : (cs.drop i).take c = [v] := by
  subst h1
  obtain ⟨hlt, rfl⟩ := List.getElem?_eq_some_iff.1 h
  rw [List.drop_eq_getElem_cons hlt]
  rfl
theorem cell_spot4 {w : World} {a : Addr} {v : Value} (h : w.cell? a = some v) : ∃ c t fr, w.heap[a.block]? = some (.cells c t fr) ∧ a.spot = none ∧ c[a.off]? = some v := by
  unfold World.cell? at h
  split at h
  · rename_i c t fr hh
    split at h
    · cases h
    · rename_i hs
      refine ⟨c, t, fr, hh, ?_, h⟩
      cases e : a.spot with
      | none => rfl
      | some s => rw [e] at hs; exact absurd rfl hs
  · cases h
/-- A law's run that answers with a bool, as a fact of the model. -/
theorem law_run [Sig] {C : Ctx} {W : World} {call : CallF} (hcall : CallOK C W call) {ρ : Rho} {h h1 : H} (G : HR W C.ng ρ h W) {g : FuncId} {fn : Func} {c : Code} (hf : C.P.funcs[g]? = some fn) (hn : (fn.name == "runtime.NumGoroutine") = false) (hb : fn.body = some c)
    {args : List NV} {args' : List Value} {b : Bool} (hr : call g args h = some (.bool b, h1)) (hv : VRL ρ args args') : Calls C.P g args'.toArray W fun e w' => e = .returned (.bool b) ∧ Below W.heap.size W w' := by
  rcases hcall ρ h W g args args' (.bool b) h1 G hv hr with ⟨_, k⟩ | ⟨v', k, _⟩
  · refine Calls.mono k ?_
    rintro e w' ⟨v', ρ', rfl, q1, q2, q3⟩
    exact ⟨by rw [q3.bool_inv], q1.below⟩
  · rw [Go.MuLone.run_callFunc_enter (P := C.P) hf hn hb args'.toArray W] at k
    cases k
/-- A number that is known by its name and bounds. -/
theorem si [Sig] {ρ : Rho} {k : IntKind} {i : Nat} {a b n : Int} (h1 : a ≤ n) (h2 : n ≤ b) (h3 : n = Sig.σ i) : VR ρ (.sint k (some i) a b) (.int k n) := .sint _ _ _ _ _ h1 h2 (fun j hj => by cases hj; exact h3)
/-- A value of one cell that is known by its name. -/
theorem oi [Sig] {ρ : Rho} {i : Nat} {v : Value} (h : Sig.val i = v) : VR ρ (.opq i) v := by subst h; exact .opq i
/-- The numbers and values for a law's run. -/
abbrev sigOf (f : Nat → Int) (hf : f 1 ≠ f 2) (val : Nat → Value) (hv : ∀ i, (val i).oneCell' = true) (fz : Nat → Option (Nat × Nat × List Value)) : Sig :=
  ⟨sigF f, by rw [sigF_lo f (by decide), sigF_lo f (by decide)]; exact hf, val, hv, fz, sigF_msk f, sigF_cut f⟩
def I64 (n : Int) : Prop := -9223372036854775808 ≤ n ∧ n ≤ 9223372036854775807
def U64 (n : Int) : Prop := 0 ≤ n ∧ n ≤ 18446744073709551615
end Go.Ne
