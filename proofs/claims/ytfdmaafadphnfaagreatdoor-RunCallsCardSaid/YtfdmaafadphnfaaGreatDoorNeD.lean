/- The evaluator's steps against the model's: one operation, and a region in its text's order. -/
import Derived.Test.YtfdmaafadphnfaaGreatDoorNeC
import Derived.Orders
import Derived.Scope
import Derived.Conc.MuLone
set_option linter.unusedSectionVars false
namespace Go.Ne
open Go Go.RowKit
variable [Sig]
/-- What a call's evaluation says of the call. -/
def CallOK (C : Ctx) (w0 : World) (call : CallF) : Prop :=
  ∀ (ρ : Rho) (h : H) (w : World) (g : FuncId) (args : List NV) (args' : List Value) (v : NV) (h' : H), HR w0 C.ng ρ h w → VRL ρ args args' → call g args h = some (v, h') →
    (callFunc g args'.toArray).run C.P w = .ok (.enter g args'.toArray) w ∧
      Calls C.P g args'.toArray w (fun e w' => ∃ v' ρ', e = .returned v' ∧ HR w0 C.ng ρ' h' w' ∧ Ext ρ h w ρ' h' w' ∧ VR ρ' v v')
    ∨ ∃ v', (callFunc g args'.toArray).run C.P w = .ok (.value v') w ∧ h' = h ∧ VR ρ v v'

section
variable {C : Ctx} {w0 : World} {ρ : Rho} {h : H} {w : World}

theorem eff_ok {ev : Operand → NV} {ev' : Operand → Value} (r : HR w0 C.ng ρ h w) (hE : EvR ρ ev ev') {o : Oper} {e : Eff} (hv : effOf C.P h.rd ev o.op = some e) : EffectsX C.P w0 C.ng ρ h w (execOp ev' o) e := by
  unfold effOf at hv
  split at hv
  · split at hv
    · rename_i v hp
      cases hv
      obtain ⟨v', g1, g2⟩ := pure_ok hE hp w
      exact ⟨_, v', w, ρ, g1, .inl rfl, r, Ext.refl _ _ _, g2⟩
    · cases hv
  · rename_i hc
    split at hv
    · rename_i v hp
      cases hv
      obtain ⟨v', g1, g2⟩ := read_ok r hE (o := o) (by rw [hc]; rfl) hp
      exact ⟨_, v', w, ρ, g1, .inl rfl, r, Ext.refl _ _ _, g2⟩
    · cases hv
  · split at hv
    · rename_i b f hp
      cases hv
      obtain ⟨obj, C0, n, v', g1, g2, g3, g4⟩ := alloc_ok hE hp w
      have hle : ρ.le (ρ.add h.next (w.heap.size, C0)) := by
        intro q x e
        unfold Rho.add
        split
        · rename_i h1; subst h1; rw [r.next_free] at e; cases e
        · exact e
      obtain ⟨r', x'⟩ := r.new (w' := { w with heap := w.heap.push obj, drawn := n }) (o := obj) (b := b) (C := C0) rfl rfl rfl rfl (g3.mono hle)
      exact ⟨_, v', _, _, g1, .inl rfl, r', x', g4 _ _ (by simp [Rho.add])⟩
    · cases hv
  · exact chain_ok r hE hv

/-- What doing one operation comes to: a world and a frame in which the rest goes on. -/
def StepTo (C : Ctx) (w0 : World) (ρ : Rho) (h : H) (w : World) (a : Act) (o : Oper) (v : NV) (h' : H) : Prop :=
  ∀ (K : Act → World → Prop) (Q : Exit → Act → World → Prop),
    (∀ v' w' ρ', HR w0 C.ng ρ' h' w' → Ext ρ h w ρ' h' w' → VR ρ' v v' → K (a.put o.dst v') w') → o.wp C.P a w K Q

theorem StepTo.of_effects {a : Act} {o : Oper} {e : Eff} (hs : EffectsX C.P w0 C.ng ρ h w (execOp a.eval o) e) : StepTo C w0 ρ h w a o (e.app h).2 (e.app h).1 := by
  intro K Q hK
  obtain ⟨nx, v', w', ρ', g1, g2, g3, g4, g5⟩ := hs
  unfold Oper.wp
  rw [g1]
  rcases g2 with rfl | ⟨rfl, rfl⟩
  · exact hK v' w' ρ' g3 g4 g5
  · exact hK undef w' ρ' g3 g4 g5
theorem applyE_some {t t' : Tm} {dst : Option Tmp} {e : Eff} {h' : H} (ha : applyE t dst h e = some (t', h')) : h' = (e.app h).1 ∧ t.put dst (e.app h).2 = some t' := by
  unfold applyE at ha
  unfold Eff.app
  split at ha
  · rename_i hn
    rw [hn]
    split at ha
    · rename_i t2 ht
      cases ha
      exact ⟨rfl, ht⟩
    · cases ha
  · rename_i b hn
    rw [hn]
    split at ha
    · rename_i t2 ht
      cases ha
      exact ⟨rfl, ht⟩
    · cases ha
theorem VR.func_inv {g : FuncId} {a b : List NV} {v' : Value} (hx : VR ρ (.func (.func g) a b) v') : ∃ a' b' : List Value, v' = .func (.func g) a'.toArray b'.toArray ∧ VRL ρ a a' ∧ VRL ρ b b' := by
  cases hx with | func _ _ _ a' b' ha hb => exact ⟨a', b', rfl, ha, hb⟩

theorem act_ok {call : CallF} (hcall : CallOK C w0 call) {ev : Operand → NV} {a : Act} (r : HR w0 C.ng ρ h w) (hE : EvR ρ ev a.eval) {o : Oper} {t t' : Tm} {h' : H} (ha : actN C call ev o t h = some (t', h')) :
    ∃ v, t.put o.dst v = some t' ∧ StepTo C w0 ρ h w a o v h' := by
  unfold actN at ha
  split at ha
  · rename_i f args ats hop
    split at ha
    · rename_i g first cap hev
      split at ha
      · rename_i v h2 hc
        split at ha
        · rename_i t2 ht
          cases ha
          refine ⟨v, ht, ?_⟩
          have hf := hE f
          rw [hev] at hf
          obtain ⟨f', c', e1, v1, v2⟩ := hf.func_inv
          have hargs := evL_ok hE args.toList
          have hall : VRL ρ (appL first (appL (mapL ev args.toList) cap)) (f' ++ (args.toList.map a.eval ++ c')) := by
            rw [appL_eq, appL_eq]
            exact v1.append (hargs.append v2)
          intro K Q hK
          have hrun : execOp a.eval o = callFunc g (f' ++ (args.toList.map a.eval ++ c')).toArray := by
            obtain ⟨dst, op, type, pos, after, guard⟩ := o
            simp only at hop
            subst hop
            simp only [execOp, resolve, e1, Deferred.ofValue, pure_bind, invoke]
            congr 1
            simp
          unfold Oper.wp
          rw [hrun]
          rcases hcall ρ h w g _ _ v h' r hall hc with ⟨k1, k2⟩ | ⟨v', k1, rfl, k2⟩
          · rw [k1]
            simp only [Oper.upon_enter]
            refine Calls.mono k2 ?_
            rintro e w' ⟨v', ρ', rfl, q1, q2, q3⟩
            exact hK v' w' ρ' q1 q2 q3
          · rw [k1]
            exact hK v' w ρ r (Ext.refl _ _ _) k2
        · cases ha
      · cases ha
    · cases ha
  · split at ha
    · rename_i e he
      obtain ⟨rfl, ht⟩ := applyE_some ha
      exact ⟨_, ht, .of_effects (eff_ok r hE he)⟩
    · cases ha

/-- A guard. -/
theorem guard_ok {ops : List Oper} {o : Oper} {t : Tm} {tmps : Array Value} (hg : ∀ j b, o.guard = some (j, b) → ∀ oj d, ops[j]? = some oj → oj.dst = some d → VR ρ (t.get d) (tmps.getD d undef)) {b : Bool} (h : guardN ops t o.guard = some b) :
    Region.wanted o (yielded ops.toArray tmps) = b := by
  unfold guardN at h
  unfold Region.wanted
  cases hgd : o.guard with
  | none => rw [hgd] at h; simp only [Option.some.injEq] at h; exact h
  | some q =>
    obtain ⟨j, want⟩ := q
    rw [hgd] at h
    simp only at h ⊢
    rw [nth_eq] at h
    split at h
    · cases h
    · rename_i oj hoj
      split at h
      · cases h
      · rename_i d hd
        have hv := hg j want hgd oj d hoj hd
        have hy : yielded ops.toArray tmps j = (match tmps.getD d undef with | .bool b => some b | _ => none) := by
          unfold yielded
          rw [Array.getD_eq_getD_getElem?] at *
          simp only [List.getElem?_toArray, hoj, Option.bind_some, hd]
          cases tmps[d]? with
          | none => rfl
          | some u => simp only [Option.getD_some]; cases u <;> rfl
        split at h
        · rename_i b0 hb0
          rw [hb0] at hv
          have := hv.bool_inv
          rw [hy, this]
          simp only [Option.some.injEq] at h
          rw [← h]
          cases b0 <;> cases want <;> rfl
        · rename_i hb0
          rw [hb0] at hv
          rw [hy]
          generalize tmps.getD d undef = u at hv ⊢
          cases hv with
          | tuple _ l' hl =>
            cases hl
            simp only [Option.some.injEq] at h
            rw [← h]
            cases want <;> rfl
        · cases h

theorem TR.guard {ops : List Oper} {o : Oper} {t : Tm} {tmps : Array Value} (ht : TR ρ t tmps) {b : Bool} (h : guardN ops t o.guard = some b) : Region.wanted o (yielded ops.toArray tmps) = b := by
  refine guard_ok (ρ := ρ) (fun j bb hj oj d hoj hd => ht.at_ d) h
/-- A region in its text's order. -/
theorem seq_ok {call : CallF} (hcall : CallOK C w0 call) {ops : List Oper} : ∀ (l : List Oper) {ρ : Rho} {h h' : H} {w : World} {t t' : Tm} {a : Act} (Q : Exit → Act → World → Prop), HR w0 C.ng ρ h w → TR ρ t a.tmps → seqN C call ops l t h = some (t', h') →
    (∀ a' w' ρ', HR w0 C.ng ρ' h' w' → Ext ρ h w ρ' h' w' → TR ρ' t' a'.tmps → a'.defers = a.defers → Q .normal a' w') → wpList C.P ops.toArray Q l a w := by
  intro l
  induction l with
  | nil =>
    intro ρ h h' w t t' a Q r ht hs hQ
    cases hs
    exact hQ a w ρ r (Ext.refl _ _ _) ht rfl
  | cons o l ih =>
    intro ρ h h' w t t' a Q r ht hs hQ
    simp only [seqN] at hs
    split at hs
    · rename_i t1 h1 hst
      refine wpList_step fun K hK => ?_
      unfold stepN at hst
      split at hst
      · cases hst
      · rename_i hg
        rw [ht.guard hg]
        split at hst
        · rename_i t2 hp
          cases hst
          simp only [Bool.false_eq_true, if_false]
          refine hK _ _ (ih Q r (ht.put VR.unit hp) hs fun a' w' ρ' q1 q2 q3 q4 => hQ a' w' ρ' q1 q2 q3 (q4.trans ?_))
          cases o.dst <;> rfl
        · cases hst
      · rename_i hg
        rw [ht.guard hg, if_pos rfl]
        obtain ⟨v, hp, hstep⟩ := act_ok hcall r (evT_ok r ht) hst
        refine hstep K Q fun v' w1 ρ1 q1 q2 q3 => hK _ _ ?_
        refine ih Q q1 ((ht.mono q2.le).put q3 hp) hs fun a' w' ρ' s1 s2 s3 s4 => hQ a' w' ρ' s1 (q2.trans s2) s3 (s4.trans ?_)
        cases o.dst <;> rfl
    · cases hs
end
end Go.Ne
/- Regions that draw their order: sets as bits, what comes ahead of what, temporaries. -/
namespace Go.Ne
open Go Go.RowKit
variable [Sig]
theorem bit_eq (m i : Nat) : bit m i = m.testBit i := by
  unfold bit
  rw [Nat.testBit_eq_decide_div_mod_eq]
  have : Nat.mod (Nat.shiftRight m i) 2 = m / 2 ^ i % 2 := by
    show (m >>> i) % 2 = _
    rw [Nat.shiftRight_eq_div_pow]
  rw [this]
  by_cases h : m / 2 ^ i % 2 = 1
  · rw [h]; rfl
  · rw [decide_eq_false h]
    cases hb : Nat.beq (m / 2 ^ i % 2) 1 with
    | true => exact absurd (Nat.eq_of_beq_eq_true hb) h
    | false => rfl
theorem bit_mark (i x j : Nat) : bit (mark i x) j = (decide (i = j) || bit x j) := by
  rw [bit_eq, bit_eq]
  unfold mark
  show (x ||| (1 <<< i)).testBit j = _
  rw [Nat.testBit_or, Nat.one_shiftLeft, Nat.testBit_two_pow, Bool.or_comm]
theorem sub_bit {a b : Nat} (h : sub a b = true) {j : Nat} (hj : bit a j = true) : bit b j = true := by
  unfold sub at h
  have h := Nat.eq_of_beq_eq_true h
  have h : a &&& b = a := h
  rw [bit_eq] at *
  rw [← h, Nat.testBit_and] at hj
  exact (Bool.and_eq_true_iff.1 hj).2
theorem bit_all {n i : Nat} (h : i < n) : bit (allN n) i = true := by
  rw [bit_eq]
  unfold allN
  show ((1 <<< n) - 1).testBit i = true
  rw [Nat.one_shiftLeft, Nat.testBit_two_pow_sub_one]
  simpa using h
theorem bit_zero (i : Nat) : bit 0 i = false := by rw [bit_eq]; simp

theorem filterN_eq (f : Nat → Bool) (l : List Nat) : filterN f l = l.filter f := by
  induction l with
  | nil => rfl
  | cons a l ih => simp only [filterN, List.filter_cons, ih]; cases f a <;> rfl

/-! ### What comes ahead -/
theorem maskOf_bit {ms : List Nat} {j : Nat} : ∀ {es : List Edge}, bit (maskOf ms es) j = true → ∃ e ∈ es, bindsE e = true ∧ (e.on = j ∨ ∃ m, ms[e.on]? = some m ∧ bit m j = true)
  | [], h => by simp only [maskOf] at h; rw [bit_zero] at h; cases h
  | e :: es, h => by
    simp only [maskOf] at h
    split at h
    · rename_i hb
      rw [bit_eq] at h
      have h : (maskOf ms es ||| ((1 <<< e.on) ||| (match nth ms e.on with | some m => m | none => 0))).testBit j = true := h
      rw [Nat.testBit_or, Nat.testBit_or, Bool.or_eq_true, Bool.or_eq_true] at h
      rcases h with h | h | h
      · obtain ⟨e', h1, h2⟩ := maskOf_bit (j := j) (es := es) (by rw [bit_eq]; exact h)
        exact ⟨e', by simp [h1], h2⟩
      · rw [Nat.one_shiftLeft, Nat.testBit_two_pow] at h
        exact ⟨e, by simp, hb, .inl (by simpa using h)⟩
      · rw [nth_eq] at h
        cases hm : ms[e.on]? with
        | none => rw [hm] at h; simp at h
        | some m => rw [hm] at h; exact ⟨e, by simp, hb, .inr ⟨m, hm, by rw [bit_eq]; exact h⟩⟩
    · obtain ⟨e', h1, h2⟩ := maskOf_bit (j := j) (es := es) h
      exact ⟨e', by simp [h1], h2⟩
theorem masks_spec : ∀ (ops : List Oper) (ms : List Nat), (∀ i, i < ms.length → (masks ms ops)[i]? = ms[i]?) ∧
    ∀ i o, ops[i]? = some o → ∃ m0, (masks ms ops)[ms.length + i]? = some (maskOf m0 o.after.toList) ∧ ∀ (k : Nat) m, m0[k]? = some m → (masks ms ops)[k]? = some m
  | [], ms => ⟨fun _ _ => rfl, fun i o h => by simp at h⟩
  | o :: l, ms => by
    obtain ⟨h1, h2⟩ := masks_spec l (appL ms [maskOf ms o.after.toList])
    simp only [masks]
    rw [appL_eq] at *
    have h1' : ∀ i, i < ms.length → (masks (ms ++ [maskOf ms o.after.toList]) l)[i]? = ms[i]? := by
      intro i hi
      rw [h1 i (by simp; omega), List.getElem?_append_left hi]
    refine ⟨h1', fun i p hp => ?_⟩
    cases i with
    | zero =>
      simp at hp
      subst hp
      refine ⟨ms, ?_, fun k m hm => ?_⟩
      · rw [h1 _ (by simp)]
        simp
      · have hk : k < ms.length := by
          rcases Nat.lt_or_ge k ms.length with h | h
          · exact h
          · rw [List.getElem?_eq_none h] at hm; cases hm
        rw [h1' k hk]
        exact hm
    | succ i =>
      simp at hp
      obtain ⟨m0, q1, q2⟩ := h2 i p hp
      refine ⟨m0, ?_, q2⟩
      have : ms.length + (i + 1) = (ms ++ [maskOf ms o.after.toList]).length + i := by simp; omega
      rw [this]
      exact q1
/-- Whatever comes ahead of an operation is an edge's end, or ahead of one. -/
theorem mask_bit {ops : List Oper} {i j : Nat} (h : bit (maskAt (masks [] ops) i) j = true) :
    ∃ o, ops[i]? = some o ∧ ∃ e ∈ o.after.toList, bindsE e = true ∧ (e.on = j ∨ bit (maskAt (masks [] ops) e.on) j = true) := by
  have hlen : ∀ (ops : List Oper) (ms : List Nat), (masks ms ops).length = ms.length + ops.length := by
    intro ops
    induction ops with
    | nil => intro ms; rfl
    | cons o l ih => intro ms; simp only [masks]; rw [ih, appL_eq]; simp; omega
  unfold maskAt at h
  rw [nth_eq] at h
  cases hm : (masks [] ops)[i]? with
  | none => rw [hm] at h; simp only at h; rw [bit_zero] at h; cases h
  | some m =>
    rw [hm] at h
    simp only at h
    have hi : i < ops.length := by
      have hl := hlen ops []
      simp at hl
      rcases Nat.lt_or_ge i ops.length with h | h
      · exact h
      · rw [List.getElem?_eq_none (by omega)] at hm; cases hm
    obtain ⟨m0, q1, q2⟩ := (masks_spec ops []).2 i ops[i] (by simp [hi])
    simp only [List.length_nil, Nat.zero_add] at q1
    rw [hm] at q1
    cases q1
    obtain ⟨e, e1, e2, e3⟩ := maskOf_bit h
    refine ⟨ops[i], by simp [hi], e, e1, e2, ?_⟩
    rcases e3 with e3 | ⟨m', e3, e4⟩
    · exact .inl e3
    · refine .inr ?_
      unfold maskAt
      rw [nth_eq, q2 _ _ e3]
      exact e4
theorem backE_all {i : Nat} : ∀ {es : List Edge}, backE i es = true → ∀ e ∈ es, bindsE e = true → e.on < i
  | [], _, e, he, _ => by simp at he
  | e0 :: es, h, e, he, hb => by
    simp only [backE] at h
    split at h
    · rename_i h0
      rcases List.mem_cons.1 he with rfl | he
      · rw [hb] at h0; cases h0
      · exact backE_all h e he hb
    · split at h
      · rename_i hlt
        rcases List.mem_cons.1 he with rfl | he
        · exact Nat.le_of_ble_eq_true hlt
        · exact backE_all h e he hb
      · cases h
theorem backO_all : ∀ {ops : List Oper} {k : Nat}, backO ops k = true → ∀ (i : Nat) o, ops[i]? = some o → ∀ e ∈ o.after.toList, bindsE e = true → e.on < k + i
  | [], _, _, i, o, h => by simp at h
  | o0 :: l, k, hk, i, o, h => by
    simp only [backO] at hk
    split at hk
    · rename_i h0
      cases i with
      | zero => simp at h; subst h; exact backE_all h0
      | succ i =>
        simp at h
        intro e he hb
        have := backO_all hk i o h e he hb
        omega
    · cases hk

/-! ### Temporaries -/
theorem dstIn_some {d : Tmp} : ∀ {ops : List Oper} {k j : Nat}, dstIn d ops k = some j → ∃ i o, j = k + i ∧ ops[i]? = some o ∧ o.dst = some d
  | [], _, _, h => by simp only [dstIn, reduceCtorEq] at h
  | o :: l, k, j, h => by
    simp only [dstIn] at h
    split at h
    · rename_i e he
      split at h
      · rename_i hb
        cases h
        exact ⟨0, o, rfl, rfl, by rw [he, Nat.eq_of_beq_eq_true hb]⟩
      · obtain ⟨i, o', h1, h2, h3⟩ := dstIn_some h
        exact ⟨i + 1, o', by omega, by simpa using h2, h3⟩
    · obtain ⟨i, o', h1, h2, h3⟩ := dstIn_some h
      exact ⟨i + 1, o', by omega, by simpa using h2, h3⟩
theorem dstIn_none {d : Tmp} : ∀ {ops : List Oper} {k : Nat}, dstIn d ops k = none → ∀ (i : Nat) o, ops[i]? = some o → o.dst ≠ some d
  | [], _, _, i, o, h => by simp at h
  | o0 :: l, k, hn, i, o, h => by
    simp only [dstIn] at hn
    split at hn
    · rename_i e he
      split at hn
      · cases hn
      · rename_i hb
        cases i with
        | zero => simp at h; subst h; rw [he]; intro hh; cases hh; simp at hb
        | succ i => simp at h; exact dstIn_none hn i o h
    · rename_i he
      cases i with
      | zero => simp at h; subst h; rw [he]; exact fun hh => by cases hh
      | succ i => simp at h; exact dstIn_none hn i o h
theorem dstIn_shift {d : Tmp} : ∀ (ops : List Oper) (k k' : Nat), dstIn d ops k = none → dstIn d ops k' = none
  | [], _, _, _ => rfl
  | o :: l, k, k', h => by
    simp only [dstIn] at h ⊢
    split
    · rename_i e he
      rw [he] at h
      simp only at h
      split
      · rename_i hb; rw [hb] at h; cases h
      · rename_i hb; rw [hb] at h; exact dstIn_shift l _ _ h
    · rename_i he
      rw [he] at h
      exact dstIn_shift l _ _ h
theorem dstIn_of {d : Tmp} : ∀ {ops : List Oper}, distinctD ops = true → ∀ {k i : Nat} {o : Oper}, ops[i]? = some o → o.dst = some d → dstIn d ops k = some (k + i)
  | [], _, _, i, o, h, _ => by simp at h
  | o0 :: l, hd, k, i, o, h, ho => by
    simp only [distinctD] at hd
    cases i with
    | zero =>
      simp at h
      subst h
      simp only [dstIn, ho]
      have : Nat.beq d d = true := Nat.beq_refl d
      rw [this]
      rfl
    | succ i =>
      simp at h
      have hl : distinctD l = true := by
        split at hd
        · exact hd
        · split at hd
          · exact hd
          · cases hd
      have ih := dstIn_of hl (k := Nat.succ k) h ho
      simp only [dstIn]
      split
      · rename_i e he
        rw [he] at hd
        simp only at hd
        split
        · rename_i hb
          have hb := Nat.eq_of_beq_eq_true hb
          subst hb
          split at hd
          · rename_i hn
            exact absurd ho (dstIn_none hn i o h)
          · cases hd
        · rw [ih]; congr 1; omega
      · rw [ih]; congr 1; omega
end Go.Ne
/- Regions that draw their order: what a plan's run says of each operation. -/
namespace Go.Ne
open Go Go.RowKit
variable [Sig]
/-- Names below a bound only. -/
def Rho.below (ρ : Rho) (n : Nat) : Rho := fun p => if p.toNat < n then ρ p else none
theorem Rho.below_le (ρ : Rho) (n : Nat) : (ρ.below n).le ρ := by
  intro p x h
  unfold Rho.below at h
  split at h
  · exact h
  · cases h
theorem Rho.below_some {ρ : Rho} {n : Nat} {p : Pos} {x : Nat × Nat} (h : ρ.below n p = some x) : p.toNat < n ∧ ρ p = some x := by
  unfold Rho.below at h
  split at h
  · exact ⟨by assumption, h⟩
  · cases h
theorem Rho.below_of {ρ : Rho} {n : Nat} {p : Pos} {x : Nat × Nat} (hp : p.toNat < n) (h : ρ p = some x) : ρ.below n p = some x := by
  unfold Rho.below
  rw [if_pos hp]
  exact h
theorem Rho.below_mono {ρ ρ' : Rho} {n m : Nat} (h : ρ.le ρ') (hn : n ≤ m) : (ρ.below n).le (ρ'.below m) := by
  intro p x hp
  obtain ⟨h1, h2⟩ := Rho.below_some hp
  exact Rho.below_of (by omega) (h _ _ h2)

theorem okNamesL_all {g : NV → Bool} : ∀ {l : List NV}, okNames.okNamesL g l = true → ∀ v ∈ l, g v = true
  | [], _, v, h => by simp at h
  | a :: l, h, v, hv => by
    simp only [okNames.okNamesL] at h
    split at h
    · rename_i ha
      rcases List.mem_cons.1 hv with rfl | hv
      · exact ha
      · exact okNamesL_all h v hv
    · cases h
theorem okNames_ok {ρ : Rho} {n : Nat} : ∀ (f : Nat) {v : NV} {v' : Value}, VR ρ v v' → okNames n f v = true → VR (ρ.below n) v v' := by
  intro f
  induction f with
  | zero => intro v v' _ h; simp only [okNames, reduceCtorEq] at h
  | succ f ih =>
    have ihl : ∀ {l : List NV} {l' : List Value}, VRL ρ l l' → (∀ v ∈ l, okNames n f v = true) → VRL (ρ.below n) l l' := by
      intro l
      induction l with
      | nil => intro l' h _; cases h; exact .nil
      | cons a l ihl =>
        intro l' h hall
        cases h with
        | cons _ a' _ l' ha hl => exact .cons _ _ _ _ (ih ha (hall a (by simp))) (ihl hl fun v hv => hall v (by simp [hv]))
    intro v v' hv h
    cases hv with
    | bad => exact .bad _
    | anyBool b => exact .anyBool b
    | bool b => exact .bool b
    | int k m => exact .int k m
    | sint k i a b n h1 h2 h3 => exact .sint k i a b n h1 h2 h3
    | str s => exact .str s
    | nilptr => exact .nilptr
    | ptr p off β C hh => simp only [okNames] at h; exact .ptr p off β C (Rho.below_of (Nat.le_of_ble_eq_true h) hh)
    | nslice => exact .nslice
    | slost a c => exact .slost a c
    | anys i a b p n c h1 h2 h3 => exact .anys i a b p n c h1 h2 h3
    | fsl k n c β off l l' hk hl h0 hh => simp only [okNames] at h; exact .fsl k n c β off l l' hk hl h0 (ihl hh (okNamesL_all h))
    | fptr k o β off l l' hk hh => simp only [okNames] at h; exact .fptr k o β off l l' hk (ihl hh (okNamesL_all h))
    | opq i => exact .opq i
    | known p off len c β C hh hl => simp only [okNames] at h; exact .known p off len c β C (Rho.below_of (Nat.le_of_ble_eq_true h) hh) hl
    | room p off len c z β C hh hl hc => simp only [okNames] at h; exact .room p off len c z β C (Rho.below_of (Nat.le_of_ble_eq_true h) hh) hl hc
    | nmap => exact .nmap
    | map p β C hh => simp only [okNames] at h; exact .map p β C (Rho.below_of (Nat.le_of_ble_eq_true h) hh)
    | func fn a b a' b' ha hb =>
      simp only [okNames] at h
      split at h
      · rename_i h1
        exact .func fn a b a' b' (ihl ha (okNamesL_all h1)) (ihl hb (okNamesL_all h))
      · cases h
    | nilFunc => exact .nilFunc
    | iface t v v' hh => simp only [okNames] at h; exact .iface t v v' (ih hh h)
    | nilIface => exact .nilIface
    | agg l l' hh => simp only [okNames] at h; exact .agg l l' (ihl hh (okNamesL_all h))
    | tuple l l' hh => simp only [okNames] at h; exact .tuple l l' (ihl hh (okNamesL_all h))

section
variable {C : Ctx} {call : CallF} {R : Rg} {tf : Tm}

/-! ### Facts about one operation -/
def Got (tf : Tm) (o : Oper) (v : NV) : Prop := ∀ d, o.dst = some d → tf.get d = v ∧ d < tf.nt
def GuardF (R : Rg) (tf : Tm) (i : Nat) (o : Oper) (b : Bool) : Prop := guardD R.ops (maskAt R.ms i) tf o.guard = some b
def Timeless (C : Ctx) (R : Rg) (tf : Tm) (i : Nat) : Prop := ∃ o, R.ops[i]? = some o ∧
  (GuardF R tf i o false ∧ Got tf o (.tuple []) ∨ GuardF R tf i o true ∧ ∃ v, pureN C.P (evD C.ng R i tf) o.op = some v ∧ Got tf o v)
def AllocF (C : Ctx) (R : Rg) (tf : Tm) (i : Nat) (p : Pos) (b : NB) : Prop := ∃ o f, R.ops[i]? = some o ∧ GuardF R tf i o true ∧ allocN C.P (evB C.ng R i tf p.toNat) o.op = some (b, f) ∧ Got tf o (f p) ∧ cls C.P o.op = .alloc
def ReadF (C : Ctx) (R : Rg) (tf : Tm) (h : H) (i : Nat) : Prop := ∃ o, R.ops[i]? = some o ∧
  (GuardF R tf i o false ∧ Got tf o (.tuple []) ∨ GuardF R tf i o true ∧ isRead (cls C.P o.op) = true ∧ ∃ v, readN C.P h.rd (evB C.ng R i tf h.next.toNat) o.op = some v ∧ Got tf o v)
def ChainF (C : Ctx) (call : CallF) (R : Rg) (tf : Tm) (e : Nat) (hc h1 : H) : Prop := ∃ o, R.ops[e]? = some o ∧
  (GuardF R tf e o false ∧ Got tf o (.tuple []) ∧ h1 = hc ∨ GuardF R tf e o true ∧ ∃ t t', actN C call (evB C.ng R e tf hc.next.toNat) o t hc = some (t', h1) ∧ ∀ v, t.put o.dst v = some t' → Got tf o v)
def QF (C : Ctx) (R : Rg) (tf : Tm) (last : Option Nat) (h : H) (i : Nat) : Prop := Timeless C R tf i ∨ ReadF C R tf h i ∧ follows last (maskAt R.ms i) = true

inductive Catch (C : Ctx) (R : Rg) (tf : Tm) (need : Option Nat) : H → List Nat → List (Nat × Pos × NB) → H → Prop
  | nil {h} : Catch C R tf need h [] [] h
  | time {h i c al hf} : Timeless C R tf i → needed need i = true → Catch C R tf need h c al hf → Catch C R tf need h (i :: c) al hf
  | alloc {h i c al hf b} : AllocF C R tf i h.next b → needed need i = true → (∀ p b', (i, p, b') ∉ al) → Catch C R tf need (h.alloc b) c al hf → Catch C R tf need h (i :: c) ((i, h.next, b) :: al) hf
/-- A store at the end, beside others. -/
def StoreF (C : Ctx) (R : Rg) (tf : Tm) (last : Option Nat) (hc : H) (τ : List (Nat × Pos × NB)) (j : Nat) (p : Pos) (b : NB) : Prop := follows last (maskAt R.ms j) = true ∧
  (∀ i, i < R.ops.length → bit (maskAt R.ms j) i = true ∨ (∃ p' b', (i, p', b') ∈ τ) ∨ (Timeless C R tf i ∧ ∃ o, R.ops[i]? = some o ∧ cls C.P o.op = .pure)) ∧
  ∃ o ty a v f, R.ops[j]? = some o ∧ o.guard = none ∧ o.op = .store ty a v ∧ chainN C.P hc.rd (evB C.ng R j tf hc.next.toNat) (.store ty a v) = some ⟨[(p, some b)], none, f⟩ ∧ Got tf o (.tuple [])
structure Stores (C : Ctx) (R : Rg) (tf : Tm) (last : Option Nat) (hc : H) (τ : List (Nat × Pos × NB)) (hf : H) : Prop where
  fact : ∀ j p b, (j, p, b) ∈ τ → StoreF C R tf last hc τ j p b
  uniq : ∀ j p b j' p' b', (j, p, b) ∈ τ → (j', p', b') ∈ τ → (j = j' ∨ p = p') → (j, p, b) = (j', p', b')
  at_ : ∀ j p b, (j, p, b) ∈ τ → hf.rd p = some b
  else_ : ∀ p, (∀ j b, (j, p, b) ∉ τ) → hf.rd p = hc.rd p
  next : hf.next = hc.next
inductive Tail (C : Ctx) (call : CallF) (R : Rg) (tf : Tm) : Option Nat → List Nat → H → List (Nat × Pos × NB) → List Nat → List Nat → H → Prop
  | done {last reads h q c al hc hf} {τ : List (Nat × Pos × NB)} : (∀ i ∈ q, QF C R tf last h i) → (∀ i ∈ reads, ReadF C R tf h i) → Catch C R tf none h c al hc → Stores C R tf last hc τ hf → Tail C call R tf last reads h al (τ.map (·.1)) (q ++ c ++ τ.map (·.1)) hf
  | step {last reads h q c al1 hc e h1 al2 es todo hf reads2} : (∀ i ∈ q, QF C R tf last h i) → (∀ i ∈ reads, ReadF C R tf h i) → Catch C R tf (some (maskAt R.ms e)) h c al1 hc →
    follows last (maskAt R.ms e) = true → ChainF C call R tf e hc h1 → hc.next.toNat ≤ h1.next.toNat →
    (∀ i ∈ reads, bit (maskAt R.ms e) i = true ∨ i ∈ reads2) → (∀ i ∈ q, Timeless C R tf i ∨ bit (maskAt R.ms e) i = true ∨ i ∈ reads2) →
    e ∉ es → (∀ p b, (e, p, b) ∉ al2) → (∀ i p b, (i, p, b) ∈ al1 → ∀ p' b', (i, p', b') ∉ al2) →
    Tail C call R tf (some e) reads2 h1 al2 es todo hf → Tail C call R tf last reads h (al1 ++ al2) (e :: es) (q ++ c ++ e :: todo) hf

theorem catch_names {need : Option Nat} {h hf : H} {c : List Nat} {al : List (Nat × Pos × NB)} (hc : Catch C R tf need h c al hf) : h.next.toNat ≤ hf.next.toNat ∧ ∀ i p b, (i, p, b) ∈ al → h.next.toNat ≤ p.toNat ∧ p.toNat < hf.next.toNat := by
  induction hc with
  | nil => exact ⟨Nat.le_refl _, fun _ _ _ h => by simp at h⟩
  | time _ _ _ ih => exact ih
  | alloc _ _ _ _ ih =>
    rw [H.next_alloc, Pos.toNat_succ] at ih
    refine ⟨by omega, fun i p b hm => ?_⟩
    rcases List.mem_cons.1 hm with hm | hm
    · cases hm; omega
    · have := ih.2 i p b hm; omega
theorem catch_uniq {need : Option Nat} {h hf : H} {c : List Nat} {al : List (Nat × Pos × NB)} (hc : Catch C R tf need h c al hf) : ∀ i p b i' p' b', (i, p, b) ∈ al → (i', p', b') ∈ al → (i = i' ∨ p = p') → (i, p, b) = (i', p', b') := by
  induction hc with
  | nil => intro i p b i' p' b' h; simp at h
  | time _ _ _ ih => exact ih
  | @alloc h j c al hf b0 _ _ hn hc ih =>
    have hnm := (catch_names hc).2
    rw [H.next_alloc, Pos.toNat_succ] at hnm
    intro i p b i' p' b' h1 h2 h3
    rcases List.mem_cons.1 h1 with e1 | m1
    · cases e1
      rcases List.mem_cons.1 h2 with e2 | m2
      · exact e2.symm
      · rcases h3 with rfl | rfl
        · exact absurd m2 (hn _ _)
        · have := hnm _ _ _ m2; omega
    · rcases List.mem_cons.1 h2 with e2 | m2
      · cases e2
        rcases h3 with rfl | rfl
        · exact absurd m1 (hn _ _)
        · have := hnm _ _ _ m1; omega
      · exact ih i p b i' p' b' m1 m2 h3
theorem catch_alloc {need : Option Nat} {h hf : H} {c : List Nat} {al : List (Nat × Pos × NB)} (hc : Catch C R tf need h c al hf) : (∀ i p b, (i, p, b) ∈ al → AllocF C R tf i p b ∧ needed need i = true) ∧
    ∀ i ∈ c, needed need i = true ∧ (Timeless C R tf i ∨ ∃ p b, (i, p, b) ∈ al) := by
  induction hc with
  | nil => exact ⟨fun _ _ _ h => by simp at h, fun _ h => by simp at h⟩
  | time h1 h2 _ ih =>
    refine ⟨ih.1, fun i hi => ?_⟩
    rcases List.mem_cons.1 hi with rfl | hi
    · exact ⟨h2, .inl h1⟩
    · exact ih.2 i hi
  | alloc h1 h2 _ _ ih =>
    refine ⟨fun i p b hm => ?_, fun i hi => ?_⟩
    · rcases List.mem_cons.1 hm with hm | hm
      · cases hm; exact ⟨h1, h2⟩
      · exact ih.1 i p b hm
    · rcases List.mem_cons.1 hi with rfl | hi
      · exact ⟨h2, .inr ⟨_, _, by simp; exact .inl ⟨rfl, rfl⟩⟩⟩
      · obtain ⟨k1, k2⟩ := ih.2 i hi
        refine ⟨k1, k2.imp id fun ⟨p, b, hp⟩ => ⟨p, b, by simp [hp]⟩⟩
theorem tail_names {last : Option Nat} {reads : List Nat} {h hf : H} {al : List (Nat × Pos × NB)} {es todo : List Nat} (ht : Tail C call R tf last reads h al es todo hf) : ∀ i p b, (i, p, b) ∈ al → h.next.toNat ≤ p.toNat := by
  induction ht with
  | done _ _ hc _ => exact fun i p b hm => ((catch_names hc).2 i p b hm).1
  | step _ _ hc _ _ hle _ _ _ _ _ _ ih =>
    intro i p b hm
    have := (catch_names hc).1
    rcases List.mem_append.1 hm with hm | hm
    · exact ((catch_names hc).2 i p b hm).1
    · have := ih i p b hm; omega
theorem tail_uniq {last : Option Nat} {reads : List Nat} {h hf : H} {al : List (Nat × Pos × NB)} {es todo : List Nat} (ht : Tail C call R tf last reads h al es todo hf) :
    ∀ i p b i' p' b', (i, p, b) ∈ al → (i', p', b') ∈ al → (i = i' ∨ p = p') → (i, p, b) = (i', p', b') := by
  induction ht with
  | done _ _ hc _ => exact catch_uniq hc
  | step _ _ hc _ _ hle _ _ _ _ hd ht ih =>
    have hn1 := (catch_names hc).2
    have hn2 := tail_names ht
    intro i p b i' p' b' h1 h2 h3
    rcases List.mem_append.1 h1 with m1 | m1
    · rcases List.mem_append.1 h2 with m2 | m2
      · exact catch_uniq hc i p b i' p' b' m1 m2 h3
      · rcases h3 with rfl | rfl
        · exact absurd m2 (hd _ _ _ m1 _ _)
        · have := hn1 _ _ _ m1; have := hn2 _ _ _ m2; omega
    · rcases List.mem_append.1 h2 with m2 | m2
      · rcases h3 with rfl | rfl
        · exact absurd m1 (hd _ _ _ m2 _ _)
        · have := hn1 _ _ _ m2; have := hn2 _ _ _ m1; omega
      · exact ih i p b i' p' b' m1 m2 h3
/-- What is to be done is one of these. -/
theorem tail_cases {last : Option Nat} {reads : List Nat} {h hf : H} {al : List (Nat × Pos × NB)} {es todo : List Nat} (ht : Tail C call R tf last reads h al es todo hf) :
    (∀ i ∈ todo, i ∈ es ∨ Timeless C R tf i ∨ (ReadF C R tf h i ∧ follows last (maskAt R.ms i) = true) ∨ (∃ p b, (i, p, b) ∈ al ∧ AllocF C R tf i p b) ∨ ∃ e ∈ es, bit (maskAt R.ms i) e = true) ∧
    (∀ i ∈ es, follows last (maskAt R.ms i) = true ∨ ∃ e ∈ es, bit (maskAt R.ms i) e = true) ∧ (∀ i ∈ reads, ReadF C R tf h i) := by
  induction ht with
  | done hq hr hc hst =>
    refine ⟨fun i hi => ?_, fun i hi => ?_, hr⟩
    · rcases List.mem_append.1 hi with hi | hi
      · rcases List.mem_append.1 hi with hi | hi
        · rcases hq i hi with h1 | h1
          · exact .inr (.inl h1)
          · exact .inr (.inr (.inl h1))
        · obtain ⟨k1, k2⟩ := catch_alloc hc
          rcases (k2 i hi).2 with h1 | ⟨p, b, h1⟩
          · exact .inr (.inl h1)
          · exact .inr (.inr (.inr (.inl ⟨p, b, h1, (k1 i p b h1).1⟩)))
      · exact .inl hi
    · obtain ⟨⟨j, p, b⟩, hm, rfl⟩ := List.mem_map.1 hi
      exact .inl (hst.fact j p b hm).1
  | @step last reads h q c al1 hc0 e h1 al2 es todo hf reads2 hq hr hc hlast hch hle hr2 hq2 hne hne2 hd ht ih =>
    obtain ⟨ih1, ih2, ih3⟩ := ih
    refine ⟨fun i hi => ?_, fun i hi => ?_, hr⟩
    · rcases List.mem_append.1 hi with hi | hi
      · rcases List.mem_append.1 hi with hi | hi
        · rcases hq i hi with h1 | h1
          · exact .inr (.inl h1)
          · exact .inr (.inr (.inl h1))
        · obtain ⟨k1, k2⟩ := catch_alloc hc
          rcases (k2 i hi).2 with h1 | ⟨p, b, h1⟩
          · exact .inr (.inl h1)
          · exact .inr (.inr (.inr (.inl ⟨p, b, by simp [h1], (k1 i p b h1).1⟩)))
      · rcases List.mem_cons.1 hi with rfl | hi
        · exact .inl (by simp)
        · rcases ih1 i hi with h1 | h1 | ⟨h1, h2⟩ | ⟨p, b, h1, h2⟩ | ⟨e', h1, h2⟩
          · exact .inl (by simp [h1])
          · exact .inr (.inl h1)
          · exact .inr (.inr (.inr (.inr ⟨e, by simp, h2⟩)))
          · exact .inr (.inr (.inr (.inl ⟨p, b, by simp [h1], h2⟩)))
          · exact .inr (.inr (.inr (.inr ⟨e', by simp [h1], h2⟩)))
    · rcases List.mem_cons.1 hi with rfl | hi
      · exact .inl hlast
      · rcases ih2 i hi with h1 | ⟨e', h1, h2⟩
        · exact .inr ⟨e, by simp, h1⟩
        · exact .inr ⟨e', by simp [h1], h2⟩
theorem tail_alloc {last : Option Nat} {reads : List Nat} {h hf : H} {al : List (Nat × Pos × NB)} {es todo : List Nat} (ht : Tail C call R tf last reads h al es todo hf) : ∀ i p b, (i, p, b) ∈ al → AllocF C R tf i p b := by
  induction ht with
  | done _ _ hc _ => exact fun i p b hm => ((catch_alloc hc).1 i p b hm).1
  | step _ _ hc _ _ _ _ _ _ _ _ _ ih =>
    intro i p b hm
    rcases List.mem_append.1 hm with hm | hm
    · exact ((catch_alloc hc).1 i p b hm).1
    · exact ih i p b hm
theorem tail_ops {last : Option Nat} {reads : List Nat} {h hf : H} {al : List (Nat × Pos × NB)} {es todo : List Nat} (ht : Tail C call R tf last reads h al es todo hf) : ∀ e ∈ es, ∃ o, R.ops[e]? = some o := by
  induction ht with
  | done _ _ _ hst =>
    intro e he
    obtain ⟨⟨j, p, b⟩, hm, rfl⟩ := List.mem_map.1 he
    obtain ⟨_, _, o, _, _, _, _, ho, _⟩ := hst.fact j p b hm
    exact ⟨o, ho⟩
  | step _ _ _ _ hch _ _ _ _ _ _ _ ih =>
    intro e' he
    rcases List.mem_cons.1 he with rfl | he
    · obtain ⟨o, ho, _⟩ := hch; exact ⟨o, ho⟩
    · exact ih e' he
end
end Go.Ne
/- Regions that draw their order: the invariant and its steps. -/
namespace Go.Ne
open Go Go.RowKit
variable [Sig]
def Li (listed : Array Bool) (i : Nat) : Prop := listed.getD i false = true
theorem Li_set {listed : Array Bool} {i : Nat} (hi : i < listed.size) (j : Nat) : Li (listed.setIfInBounds i true) j ↔ i = j ∨ Li listed j := by
  unfold Li
  rw [Array.getD_eq_getD_getElem?, Array.getD_eq_getD_getElem?, Array.getElem?_setIfInBounds]
  by_cases h : i = j
  · subst h; simp [hi]
  · simp [h]

section
variable {C : Ctx} {call : CallF} {R : Rg} {tf : Tm} {w0 w00 : World} {ρ0 : Rho} {h0 : H}

structure Vals (R : Rg) (tf : Tm) (listed : Array Bool) (ρ : Rho) (a : Act) : Prop where
  nt : a.tmps.size = tf.nt
  old : ∀ y, dstIn y R.ops 0 = none → VR ρ (tf.get y) (a.tmps.getD y undef)
  oldj : ∀ y j, dstIn y R.ops 0 = some j → ¬ Li listed j → VR ρ (R.t0.get y) (a.tmps.getD y undef)
  new : ∀ y j, dstIn y R.ops 0 = some j → Li listed j → VR ρ (tf.get y) (a.tmps.getD y undef)
theorem put_getD (a : Act) (dst : Option Tmp) (v : Value) (y : Tmp) : (a.put dst v).tmps.getD y undef = if dst = some y ∧ y < a.tmps.size then v else a.tmps.getD y undef := by
  cases dst with
  | none => simp [Act.put]
  | some d =>
    simp only [Act.put, Array.getD_eq_getD_getElem?, Array.getElem?_setIfInBounds]
    by_cases h : d = y
    · subst h
      by_cases h2 : d < a.tmps.size
      · simp [h2]
      · simp [h2]
    · have : ¬ (some d = some y ∧ y < a.tmps.size) := fun k => h (by injection k.1)
      rw [if_neg h, if_neg this]
theorem vals_put (hd : distinctD R.ops = true) {listed : Array Bool} {ρ ρ' : Rho} {a : Act} (hv : Vals R tf listed ρ a) (hle : ρ.le ρ') {i : Nat} {o : Oper} (ho : R.ops[i]? = some o) (hi : i < listed.size) {v : NV} {v' : Value} (hg : Got tf o v) (hr : VR ρ' v v') :
    Vals R tf (listed.setIfInBounds i true) ρ' (a.put o.dst v') := by
  have hdst : ∀ y, o.dst = some y → dstIn y R.ops 0 = some i := fun y hy => by simpa using dstIn_of hd (k := 0) ho hy
  refine ⟨?_, fun y hy => ?_, fun y j hy hj => ?_, fun y j hy hj => ?_⟩
  · rw [← hv.nt]
    cases o.dst <;> simp [Act.put]
  · rw [put_getD, if_neg]
    · exact (hv.old y hy).mono hle
    · rintro ⟨h1, _⟩
      rw [hdst y h1] at hy
      cases hy
  · rw [Li_set hi] at hj
    rw [put_getD, if_neg]
    · exact (hv.oldj y j hy fun k => hj (.inr k)).mono hle
    · rintro ⟨h1, _⟩
      rw [hdst y h1] at hy
      cases hy
      exact hj (.inl rfl)
  · rw [Li_set hi] at hj
    rw [put_getD]
    split
    · rename_i h1
      rw [(hg y h1.1).1]
      exact hr
    · rename_i h1
      rcases hj with rfl | hj
      · obtain ⟨k, o', e1, e2, e3⟩ := dstIn_some hy
        have : k = i := by omega
        subst this
        rw [ho] at e2
        cases e2
        exact absurd ⟨e3, by rw [hv.nt]; exact (hg y e3).2⟩ h1
      · exact (hv.new y j hy hj).mono hle

/-- All that comes ahead of what is listed is listed. -/
def Closed (R : Rg) (listed : Array Bool) : Prop := ∀ i, Li listed i → ∀ j, bit (maskAt R.ms i) j = true → Li listed j
def Pre (R : Rg) (listed : Array Bool) (i : Nat) : Prop := ∀ j, bit (maskAt R.ms i) j = true → Li listed j
def Globs (C : Ctx) (ρ : Rho) : Prop := ∀ g, g < C.ng → ∃ D, ρ (gkey g) = some (g, D)
theorem ev_ok {listed : Array Bool} {ρ : Rho} {a : Act} (hv : Vals R tf listed ρ a) (hg : Globs C ρ) (hc : Closed R listed) {i : Nat} (hp : Pre R listed i) (hi : ¬ Li listed i) : EvR ρ (evD C.ng R i tf) a.eval := by
  intro x
  cases x with
  | tmp y =>
    simp only [evD]
    split
    · rename_i hy; exact hv.old y hy
    · rename_i j hy
      split
      · rename_i hb; exact hv.new y j hy (hp j hb)
      · split
        · rename_i hb; exact hv.oldj y j hy fun k => hi (hc j k i hb)
        · exact .bad _
  | const v => exact ofValue_ok ρ 10 v
  | global g =>
    simp only [evD, evT]
    split
    · rename_i hb
      obtain ⟨D, e⟩ := hg g (by simpa using hb)
      exact .ptr _ 0 g D e
    · exact .bad _
  | func f => exact VR.func' .nil .nil
theorem evB_ok {listed : Array Bool} {ρ : Rho} {a : Act} (hv : Vals R tf listed ρ a) (hg : Globs C ρ) (hc : Closed R listed) {i : Nat} (hp : Pre R listed i) (hi : ¬ Li listed i) (n : Nat) : EvR (ρ.below n) (evB C.ng R i tf n) a.eval := by
  intro x
  unfold evB
  split
  · rename_i h; exact okNames_ok 20 (ev_ok hv hg hc hp hi x) h
  · exact .bad _
theorem guardF_ok (hd : distinctD R.ops = true) {listed : Array Bool} {ρ : Rho} {a : Act} (hv : Vals R tf listed ρ a) {i : Nat} (hp : Pre R listed i) {o : Oper} {b : Bool} (h : GuardF R tf i o b) :
    Region.wanted o (yielded R.ops.toArray a.tmps) = b := by
  unfold GuardF guardD at h
  split at h
  · rename_i hg
    cases h
    unfold Region.wanted
    rw [hg]
  · rename_i j bb hg
    split at h
    · rename_i hb
      refine guard_ok (ρ := ρ) (t := tf) ?_ h
      intro j' b' hj oj d hoj hdst
      rw [hg] at hj
      cases hj
      exact hv.new d j (by simpa using dstIn_of hd (k := 0) hoj hdst) (hp j hb)
    · cases h

structure Inv (C : Ctx) (R : Rg) (tf : Tm) (w0 w00 : World) (ρ0 : Rho) (h0 : H) (dd : List Deferred) (reads : List Nat) (h : H) (al : List (Nat × Pos × NB)) (es todo : List Nat) (listed : Array Bool) (ρ : Rho) (a : Act) (w : World) : Prop where
  size : listed.size = R.ops.length
  closed : Closed R listed
  un : ∀ i, i < R.ops.length → ¬ Li listed i → i ∈ todo ∨ i ∈ reads ∨ Timeless C R tf i
  es : ∀ e ∈ es, ¬ Li listed e
  hr : HR w0 C.ng (ρ.below h.next.toNat) h w
  ext : Ext ρ0 h0 w00 (ρ.below h.next.toNat) h w
  vals : Vals R tf listed ρ a
  pend : ∀ i p b, (i, p, b) ∈ al → Li listed i → ∃ β D o, ρ p = some (β, D) ∧ w.heap[β]? = some o ∧ BR (ρ.below p.toNat) b D o ∧ isRo b = false ∧ w00.heap.size ≤ β ∧ w0.heap.size ≤ β ∧ ∀ q x, ρ q = some x → x.1 = β → q = p
  dom : ∀ q x, ρ q = some x → x.1 < w.heap.size ∧ (q.toNat < h.next.toNat ∨ ∃ i b, (i, q, b) ∈ al ∧ Li listed i)
  defers : a.defers = dd

variable {dd : List Deferred} {reads : List Nat} {h : H} {al : List (Nat × Pos × NB)} {es todo : List Nat} {listed : Array Bool} {ρ : Rho} {a : Act} {w : World}
theorem Inv.globs (I : Inv C R tf w0 w00 ρ0 h0 dd reads h al es todo listed ρ a w) : Globs C ρ := fun g hg => by
  obtain ⟨D, e⟩ := I.hr.glob g hg
  exact ⟨D, ρ.below_le _ _ _ e⟩
theorem Closed.set {i : Nat} (hc : Closed R listed) (hp : Pre R listed i) (hi : i < listed.size) : Closed R (listed.setIfInBounds i true) := by
  intro j hj k hk
  rw [Li_set hi] at hj ⊢
  rcases hj with rfl | hj
  · exact .inr (hp k hk)
  · exact .inr (hc j hj k hk)
theorem put_defers' (a : Act) (d : Option Tmp) (v : Value) : (a.put d v).defers = a.defers := by cases d <;> rfl

/-- A value that changed no memory. -/
theorem Inv.quiet (hd : distinctD R.ops = true) (I : Inv C R tf w0 w00 ρ0 h0 dd reads h al es todo listed ρ a w) {i : Nat} {o : Oper} (ho : R.ops[i]? = some o) (hin : i < R.ops.length) (hp : Pre R listed i) (hes : i ∉ es) (hal : ∀ p b, (i, p, b) ∉ al) {v : NV} {v' : Value} (hg : Got tf o v) (hr : VR ρ v v') :
    Inv C R tf w0 w00 ρ0 h0 dd reads h al es todo (listed.setIfInBounds i true) ρ (a.put o.dst v') w := by
  have hi : i < listed.size := by rw [I.size]; exact hin
  refine ⟨by simp [I.size], I.closed.set hp hi, fun j hj hl => I.un j hj fun k => hl ((Li_set hi j).2 (.inr k)), fun e he k => ?_, I.hr, I.ext, vals_put hd I.vals ρ.le_refl ho hi hg hr, fun j p b hm hl => ?_, fun q x hq => ?_, ?_⟩
  · rcases (Li_set hi e).1 k with rfl | k
    · exact hes he
    · exact I.es e he k
  · rcases (Li_set hi j).1 hl with rfl | hl
    · exact absurd hm (hal _ _)
    · exact I.pend j p b hm hl
  · obtain ⟨k1, k2⟩ := I.dom q x hq
    refine ⟨k1, k2.imp id fun ⟨j, b, m1, m2⟩ => ⟨j, b, m1, (Li_set hi j).2 (.inr m2)⟩⟩
  · rw [put_defers']; exact I.defers

theorem Ext.push {ρ : Rho} {h : H} {w : World} {n : Nat} {o : Obj} : Ext ρ h w ρ h { w with heap := w.heap.push o, drawn := n } := by
  refine ⟨ρ.le_refl, fun _ _ a b => by (rw [a] at b; cases b), Nat.le_refl _, by simp, fun β u e _ => ?_, fun _ o => .inl o⟩
  have := lt_of_some e
  show (w.heap.push o)[β]? = some u
  rw [Array.getElem?_push, if_neg (by omega)]
  exact e
theorem below_add {ρ : Rho} {p : Pos} {x : Nat × Nat} {n : Nat} (h : n ≤ p.toNat) : (ρ.add p x).below n = ρ.below n := by
  funext q
  unfold Rho.below Rho.add
  split
  · rename_i hq
    rw [if_neg]
    rintro rfl
    omega
  · rfl
/-- A block is made ahead of its turn. -/
theorem Inv.alloc (hd : distinctD R.ops = true) (hu : ∀ i p b i' p' b', (i, p, b) ∈ al → (i', p', b') ∈ al → (i = i' ∨ p = p') → (i, p, b) = (i', p', b')) (hn : ∀ i p b, (i, p, b) ∈ al → h.next.toNat ≤ p.toNat)
    (I : Inv C R tf w0 w00 ρ0 h0 dd reads h al es todo listed ρ a w) {i : Nat} {p : Pos} {b : NB} (hm : (i, p, b) ∈ al) (hp : Pre R listed i) (hes : i ∉ es) (hl : ¬ Li listed i) {o : Oper} {f : Pos → NV} (ho : R.ops[i]? = some o) (hin : i < R.ops.length)
    (hal : allocN C.P (evB C.ng R i tf p.toNat) o.op = some (b, f)) (hg : Got tf o (f p)) :
    ∃ v' w' ρ', (execOp a.eval o).run C.P w = .ok (.value v') w' ∧ Inv C R tf w0 w00 ρ0 h0 dd reads h al es todo (listed.setIfInBounds i true) ρ' (a.put o.dst v') w' := by
  have hi : i < listed.size := by rw [I.size]; exact hin
  obtain ⟨obj, D, n, v', g1, g2, g3, g4⟩ := alloc_ok (evB_ok I.vals I.globs I.closed hp hl p.toNat) hal w
  have hfree : ρ p = none := by
    cases e : ρ p with
    | none => rfl
    | some x =>
      rcases (I.dom p x e).2 with k | ⟨j, b', k1, k2⟩
      · have := hn i p b hm; omega
      · have := hu _ _ _ _ _ _ hm k1 (.inr rfl)
        cases this
        exact absurd k2 hl
  have hle : ρ.le (ρ.add p (w.heap.size, D)) := by
    intro q x e
    unfold Rho.add
    split
    · rename_i h1; subst h1; rw [hfree] at e; cases e
    · exact e
  have hpn := hn i p b hm
  have hb := below_add (ρ := ρ) (x := (w.heap.size, D)) hpn
  have hget : ∀ (β : Nat) u, w.heap[β]? = some u → (w.heap.push obj)[β]? = some u := by
    intro β u e
    have := lt_of_some e
    rw [Array.getElem?_push, if_neg (by omega)]
    exact e
  refine ⟨v', _, ρ.add p (w.heap.size, D), g1, by simp [I.size], I.closed.set hp hi, fun j hj hl => I.un j hj fun k => hl ((Li_set hi j).2 (.inr k)), fun e he k => ?_, ?_, ?_,
    vals_put hd I.vals hle ho hi hg (g4 _ _ (by simp [Rho.add])), fun j q c hm2 hl2 => ?_, fun q x hq => ?_, ?_⟩
  · rcases (Li_set hi e).1 k with rfl | k
    · exact hes he
    · exact I.es e he k
  · rw [hb]
    exact (I.hr.push (w' := { w with heap := w.heap.push obj, drawn := n }) (o := obj) rfl rfl rfl rfl).1
  · rw [hb]
    exact I.ext.trans Ext.push
  · by_cases hji : i = j
    · subst hji
      have := hu _ _ _ _ _ _ hm hm2 (.inl rfl)
      cases this
      refine ⟨w.heap.size, D, obj, by simp [Rho.add], ?_, ?_, g2, ?_, I.hr.below.size, fun q x hq hx => ?_⟩
      · show (w.heap.push obj)[w.heap.size]? = some obj
        rw [Array.getElem?_push, if_pos rfl]
      · rw [below_add (Nat.le_refl _)]; exact g3
      · exact I.ext.grow
      · unfold Rho.add at hq
        split at hq
        · rename_i h1; exact h1.symm
        · have := (I.dom q x hq).1; omega
    · have hlj : Li listed j := by
        rcases (Li_set hi j).1 hl2 with k | k
        · exact absurd k hji
        · exact k
      obtain ⟨β, E, u, k1, k2, k3, k4, k5, k6, k7⟩ := I.pend j q c hm2 hlj
      refine ⟨β, E, u, hle _ _ k1, hget _ _ k2, k3.mono (Rho.below_mono hle (Nat.le_refl _)), k4, k5, k6, fun r x hr hx => ?_⟩
      unfold Rho.add at hr
      split at hr
      · cases hr
        have := lt_of_some k2
        simp only at hx
        omega
      · exact k7 r x hr hx
  · unfold Rho.add at hq
    split at hq
    · rename_i h1
      cases hq
      exact ⟨by simp, .inr ⟨i, b, by rw [← h1]; exact hm, (Li_set hi i).2 (.inl rfl)⟩⟩
    · obtain ⟨k1, k2⟩ := I.dom q x hq
      refine ⟨by simp; omega, k2.imp id fun ⟨j, b', m1, m2⟩ => ⟨j, b', m1, (Li_set hi j).2 (.inr m2)⟩⟩
  · rw [put_defers']; exact I.defers

/-- The blocks that were made ahead of their turn are named, one behind the other. -/
theorem name_all {need : Option Nat} {c : List Nat} {al1 : List (Nat × Pos × NB)} {hc : H} {ρ : Rho} {w : World} {h : H} (hcatch : Catch C R tf need h c al1 hc) (hr : HR w0 C.ng (ρ.below h.next.toNat) h w) (he : Ext ρ0 h0 w00 (ρ.below h.next.toNat) h w)
    (hp : ∀ i p b, (i, p, b) ∈ al1 → ∃ β D o, ρ p = some (β, D) ∧ w.heap[β]? = some o ∧ BR (ρ.below p.toNat) b D o ∧ isRo b = false ∧ w00.heap.size ≤ β ∧ w0.heap.size ≤ β ∧ ∀ q x, ρ q = some x → x.1 = β → q = p) :
    HR w0 C.ng (ρ.below hc.next.toNat) hc w ∧ Ext ρ0 h0 w00 (ρ.below hc.next.toNat) hc w := by
  induction hcatch with
  | nil => exact ⟨hr, he⟩
  | time _ _ _ ih => exact ih hr he hp
  | @alloc h i c al hf b hA _ hn hcat ih =>
    obtain ⟨β, D, o, k1, k2, k3, k4, k5, k6, k7⟩ := hp i h.next b (by simp)
    have hadd : (ρ.below h.next.toNat).add h.next (β, D) = ρ.below (h.alloc b).next.toNat := by
      funext q
      rw [H.next_alloc, Pos.toNat_succ]
      unfold Rho.add Rho.below
      by_cases hq : h.next = q
      · subst hq
        rw [if_pos rfl, if_pos (by omega), k1]
      · rw [if_neg hq]
        have : q.toNat ≠ h.next.toNat := fun e => hq (Pos.toNat_inj e).symm
        by_cases hlt : q.toNat < h.next.toNat
        · rw [if_pos hlt, if_pos (by omega)]
        · rw [if_neg hlt, if_neg (by omega)]
    have hle : (ρ.below h.next.toNat).le ((ρ.below h.next.toNat).add h.next (β, D)) := by
      rw [hadd, H.next_alloc, Pos.toNat_succ]
      exact Rho.below_mono ρ.le_refl (by omega)
    have hno : ∀ q b' E, h.rd q = some b' → ρ.below h.next.toNat q ≠ some (β, E) := by
      intro q b' E _ e
      obtain ⟨e1, e2⟩ := Rho.below_some e
      have := k7 q _ e2 rfl
      subst this
      omega
    obtain ⟨r', le'⟩ := hr.name (b := b) (C := D) hr.next_free hno k6 k2 (k3.mono hle)
    have he' : Ext ρ0 h0 w00 ((ρ.below h.next.toNat).add h.next (β, D)) (h.alloc b) w := by
      refine ⟨Rho.le_trans he.le le', fun q x e1 e2 => ?_, ?_, he.grow, he.frame, fun γ ⟨q, c', E, e1, e2, e3⟩ => ?_⟩
      · unfold Rho.add at e1
        split at e1
        · rename_i hq
          cases e1
          refine ⟨.inl k5, ?_⟩
          rw [← hq]
          exact he.next
        · exact he.fresh q x e1 e2
      · rw [H.next_alloc, Pos.toNat_succ]
        have := he.next
        omega
      · rw [H.rd_alloc] at e1
        unfold Rho.add at e3
        split at e1
        · rename_i hq
          rw [if_pos hq] at e3
          cases e3
          exact .inr k5
        · rename_i hq
          rw [if_neg hq] at e3
          exact he.own γ ⟨q, c', E, e1, e2, e3⟩
    rw [hadd] at r' he'
    exact ih r' he' fun j p b' hm => hp j p b' (by simp [hm])
end
end Go.Ne
/- Regions that draw their order: the chain's steps, and whatever order is drawn. -/
namespace Go.Ne
open Go Go.RowKit
variable [Sig]
section
variable {C : Ctx} {call : CallF} {R : Rg} {tf : Tm} {w0 w00 : World} {ρ0 : Rho} {h0 : H}
variable {dd : List Deferred} {reads reads2 : List Nat} {h hc h1 : H} {al1 al2 : List (Nat × Pos × NB)} {es todo q c : List Nat} {listed : Array Bool} {ρ : Rho} {a : Act} {w : World} {e : Nat}

theorem Inv.named (I : Inv C R tf w0 w00 ρ0 h0 dd reads h (al1 ++ al2) (e :: es) (q ++ c ++ e :: todo) listed ρ a w) (hcatch : Catch C R tf (some (maskAt R.ms e)) h c al1 hc) (hp : Pre R listed e) :
    HR w0 C.ng (ρ.below hc.next.toNat) hc w ∧ Ext ρ0 h0 w00 (ρ.below hc.next.toNat) hc w :=
  name_all hcatch I.hr I.ext fun i p b hm => I.pend i p b (by simp [hm]) (hp i ((catch_alloc hcatch).1 i p b hm).2)
theorem Inv.next (hd : distinctD R.ops = true) (I : Inv C R tf w0 w00 ρ0 h0 dd reads h (al1 ++ al2) (e :: es) (q ++ c ++ e :: todo) listed ρ a w) (hcatch : Catch C R tf (some (maskAt R.ms e)) h c al1 hc) (hp : Pre R listed e)
    (hle1 : hc.next.toNat ≤ h1.next.toNat) (hn2 : ∀ i p b, (i, p, b) ∈ al2 → h1.next.toNat ≤ p.toNat) (hne : e ∉ es) (hne2 : ∀ p b, (e, p, b) ∉ al2)
    (hr2 : ∀ i ∈ reads, bit (maskAt R.ms e) i = true ∨ i ∈ reads2) (hq2 : ∀ i ∈ q, Timeless C R tf i ∨ bit (maskAt R.ms e) i = true ∨ i ∈ reads2)
    {o : Oper} (ho : R.ops[e]? = some o) (hin : e < R.ops.length) {v : NV} {v' : Value} {w' : World} {ρ' : Rho} (hr : HR w0 C.ng ρ' h1 w') (hx : Ext (ρ.below hc.next.toNat) hc w ρ' h1 w') (hv : VR ρ' v v') (hg : Got tf o v) :
    ∃ ρ2, Inv C R tf w0 w00 ρ0 h0 dd reads2 h1 al2 es todo (listed.setIfInBounds e true) ρ2 (a.put o.dst v') w' := by
  have hi : e < listed.size := by rw [I.size]; exact hin
  obtain ⟨hr1, hx1⟩ := I.named hcatch hp
  have hcn := catch_names hcatch
  let ρ2 : Rho := fun p => if p.toNat < h1.next.toNat then ρ' p else ρ p
  have hbel : ρ2.below h1.next.toNat = ρ' := by
    funext p
    unfold Rho.below
    by_cases hlt : p.toNat < h1.next.toNat
    · rw [if_pos hlt]
      show (if p.toNat < h1.next.toNat then ρ' p else ρ p) = _
      rw [if_pos hlt]
    · rw [if_neg hlt]
      cases he : ρ' p with
      | none => rfl
      | some x => exact absurd (hr.dom p x he).1 hlt
  have hle : ρ.le ρ2 := by
    intro p x hpx
    show (if p.toNat < h1.next.toNat then ρ' p else ρ p) = some x
    split
    · rename_i hlt
      rcases (I.dom p x hpx).2 with k | ⟨j, b, m, _⟩
      · exact hx.le _ _ (Rho.below_of (by omega) hpx)
      · rcases List.mem_append.1 m with m | m
        · exact hx.le _ _ (Rho.below_of (hcn.2 _ _ _ m).2 hpx)
        · have := hn2 _ _ _ m; omega
    · exact hpx
  have hle' : ρ'.le ρ2 := by rw [← hbel]; exact ρ2.below_le _
  refine ⟨ρ2, by simp [I.size], I.closed.set hp hi, fun j hj hl => ?_, fun e' he' k => ?_, by rw [hbel]; exact hr, by rw [hbel]; exact hx1.trans hx, vals_put hd I.vals hle ho hi hg (hv.mono hle'), fun j p b hm hl => ?_, fun p x hpx => ?_, ?_⟩
  · have hlj : ¬ Li listed j := fun k => hl ((Li_set hi j).2 (.inr k))
    have hje : e ≠ j := fun k => hl ((Li_set hi j).2 (.inl k))
    rcases I.un j hj hlj with k | k | k
    · rcases List.mem_append.1 k with k | k
      · rcases List.mem_append.1 k with k | k
        · rcases hq2 j k with k | k | k
          · exact .inr (.inr k)
          · exact absurd (hp j k) hlj
          · exact .inr (.inl k)
        · exact absurd (hp j ((catch_alloc hcatch).2 j k).1) hlj
      · rcases List.mem_cons.1 k with k | k
        · exact absurd k.symm hje
        · exact .inl k
    · rcases hr2 j k with k | k
      · exact absurd (hp j k) hlj
      · exact .inr (.inl k)
    · exact .inr (.inr k)
  · rcases (Li_set hi e').1 k with rfl | k
    · exact hne he'
    · exact I.es e' (by simp [he']) k
  · have hpn := hn2 j p b hm
    have hlj : Li listed j := by
      rcases (Li_set hi j).1 hl with rfl | k
      · exact absurd hm (hne2 _ _)
      · exact k
    obtain ⟨β, D, u, k1, k2, k3, k4, k5, k6, k7⟩ := I.pend j p b (by simp [hm]) hlj
    have hno : ¬ Own (ρ.below hc.next.toNat) hc β := by
      rintro ⟨r, b', E, e1, e2, e3⟩
      obtain ⟨e4, e5⟩ := Rho.below_some e3
      have := k7 r _ e5 rfl
      subst this
      omega
    refine ⟨β, D, u, hle _ _ k1, hx.frame β u k2 hno, k3.mono (Rho.below_mono hle (Nat.le_refl _)), k4, k5, k6, fun r x hrx hxβ => ?_⟩
    have hrx : (if r.toNat < h1.next.toNat then ρ' r else ρ r) = some x := hrx
    split at hrx
    · cases hr0 : ρ.below hc.next.toNat r with
      | some y =>
        have := hx.le _ _ hr0
        rw [hrx] at this
        cases this
        exact k7 r _ (Rho.below_some hr0).2 hxβ
      | none =>
        rcases (hx.fresh r x hrx hr0).1 with k | k
        · have := lt_of_some k2; omega
        · rw [hxβ] at k; exact absurd k hno
    · exact k7 r x hrx hxβ
  · have hpx : (if p.toNat < h1.next.toNat then ρ' p else ρ p) = some x := hpx
    split at hpx
    · rename_i hlt
      exact ⟨(hr.dom p x hpx).2, .inl hlt⟩
    · rename_i hlt
      obtain ⟨m1, m2⟩ := I.dom p x hpx
      refine ⟨Nat.lt_of_lt_of_le m1 hx.grow, .inr ?_⟩
      rcases m2 with k | ⟨j, b, m, hlj⟩
      · omega
      · rcases List.mem_append.1 m with m | m
        · have := (hcn.2 _ _ _ m).2; omega
        · exact ⟨j, b, m, (Li_set hi j).2 (.inr hlj)⟩
  · rw [put_defers']; exact I.defers

theorem binds_any (e : Edge) : Region.binds .any e = bindsE e := by
  unfold Region.binds bindsE
  cases e.ground <;> rfl
theorem mem_ready {i : Nat} (h : i ∈ Region.ready .any R.ops.toArray listed) (hs : listed.size = R.ops.length) : i < R.ops.length ∧ ¬ Li listed i ∧ ∃ o, R.ops[i]? = some o ∧ ∀ e ∈ o.after.toList, bindsE e = true → Li listed e.on := by
  unfold Region.ready at h
  rw [List.mem_filter, List.mem_range] at h
  obtain ⟨h1, h2⟩ := h
  have h1 : i < R.ops.length := by simpa using h1
  rw [Bool.and_eq_true] at h2
  obtain ⟨h2, h3⟩ := h2
  refine ⟨h1, ?_, R.ops[i], by simp [h1], ?_⟩
  · unfold Li
    have hi : i < listed.size := by omega
    simp [hi] at h2
    simp [hi, h2]
  · intro e he hb
    have e1 : R.ops.toArray[i]? = some R.ops[i] := by simp [h1]
    rw [e1] at h3
    simp only [Option.map_some, Option.getD_some] at h3
    rw [Array.all_eq_true_iff_forall_mem] at h3
    have := h3 e (by simpa using he)
    rw [binds_any, hb] at this
    unfold Li
    simpa using this
theorem ready_of {i : Nat} (hs : listed.size = R.ops.length) {o : Oper} (ho : R.ops[i]? = some o) (hl : ¬ Li listed i) (ha : ∀ e ∈ o.after.toList, bindsE e = true → Li listed e.on) : i ∈ Region.ready .any R.ops.toArray listed := by
  have h1 : i < R.ops.length := by
    rcases Nat.lt_or_ge i R.ops.length with h | h
    · exact h
    · rw [List.getElem?_eq_none h] at ho; cases ho
  unfold Region.ready
  rw [List.mem_filter, List.mem_range]
  refine ⟨by simpa using h1, ?_⟩
  rw [Bool.and_eq_true]
  refine ⟨?_, ?_⟩
  · unfold Li at hl
    have hi : i < listed.size := by omega
    simp [hi] at hl ⊢
    exact hl
  · have e1 : R.ops.toArray[i]? = some o := by simpa using ho
    rw [e1]
    simp only [Option.map_some, Option.getD_some]
    rw [Array.all_eq_true_iff_forall_mem]
    intro e he
    rw [binds_any]
    cases hb : bindsE e with
    | false => rfl
    | true => have := ha e (by simpa using he) hb; unfold Li at this; simp [this]
theorem all_listed (hback : backO R.ops 0 = true) (hs : listed.size = R.ops.length) (hr : Region.ready .any R.ops.toArray listed = []) : ∀ i, i < R.ops.length → Li listed i := by
  intro i
  induction i using Nat.strongRecOn with
  | _ i ih =>
    intro hi
    by_cases hl : Li listed i
    · exact hl
    · have ho : R.ops[i]? = some R.ops[i] := by simp [hi]
      have := ready_of hs ho hl fun e he hb => by
        have hlt := backO_all hback i _ ho e he hb
        exact ih e.on (by omega) (by omega)
      rw [hr] at this
      simp at this
theorem pre_ready (hms : R.ms = masks [] R.ops) (hc : Closed R listed) {i : Nat} {o : Oper} (ho : R.ops[i]? = some o) (ha : ∀ e ∈ o.after.toList, bindsE e = true → Li listed e.on) : Pre R listed i := by
  intro j hj
  rw [hms] at hj
  obtain ⟨o', h1, e, h2, h3, h4⟩ := mask_bit hj
  rw [ho] at h1
  cases h1
  rcases h4 with rfl | h4
  · exact ha e h2 h3
  · exact hc e.on (ha e h2 h3) j (by rw [hms]; exact h4)
theorem countP_less (p q : Nat → Bool) (i : Nat) (hp : p i = true) (hq : q i = false) (h : ∀ j, q j = true → p j = true) : ∀ n, i < n → (List.range n).countP q + 1 ≤ (List.range n).countP p
  | 0, h0 => by omega
  | n + 1, hn => by
    rw [List.range_succ, List.countP_append, List.countP_append]
    have mono : ∀ m, (List.range m).countP q ≤ (List.range m).countP p := fun m => List.countP_mono_left fun j _ hj => h j hj
    by_cases hin : i = n
    · subst hin
      have := mono i
      simp [hp, hq]
      exact this
    · have ih := countP_less p q i hp hq h n (by omega)
      have h2 : [n].countP q ≤ [n].countP p := List.countP_mono_left fun j _ hj => h j hj
      omega
def left (listed : Array Bool) (n : Nat) : Nat := (List.range n).countP fun i => !listed.getD i false
theorem left_set {i n : Nat} (hi : i < n) (hs : listed.size = n) (hl : ¬ Li listed i) : left (listed.setIfInBounds i true) n + 1 ≤ left listed n := by
  unfold left
  have hi2 : i < listed.size := by omega
  refine countP_less _ _ i ?_ ?_ ?_ n hi
  · unfold Li at hl; simpa using hl
  · have := (Li_set hi2 i).2 (.inl rfl); unfold Li at this; simpa using this
  · intro j hj
    cases hlj : listed.getD j false with
    | false => rfl
    | true =>
      have := (Li_set hi2 j).2 (.inr hlj)
      unfold Li at this
      rw [this] at hj
      cases hj

theorem HR.same {ρ ρ0 : Rho} {h h' h0 : H} {w w00 : World} (r : HR w0 C.ng ρ h w) (e : Ext ρ0 h0 w00 ρ h w) (hs : ∀ p, h'.rd p = h.rd p) (hn : h'.next = h.next) : HR w0 C.ng ρ h' w ∧ Ext ρ0 h0 w00 ρ h' w := by
  refine ⟨⟨r.below, fun p b hp => r.blk p b (by rw [← hs]; exact hp), fun p q b b' β D D' h1 h2 => r.inj p q b b' β D D' (by rw [← hs]; exact h1) (by rw [← hs]; exact h2), fun p x hp => by rw [hn]; exact r.dom p x hp, r.glob, r.frz⟩, ?_⟩
  exact ⟨e.le, e.fresh, by rw [hn]; exact e.next, e.grow, e.frame, fun β ⟨p, b, D, h1, h2, h3⟩ => e.own β ⟨p, b, D, by rw [← hs]; exact h1, h2, h3⟩⟩
theorem store_congr {P : Program} {rd rd' : Pos → Option NB} {ev : Operand → NV} {ty : TypeId} {a v : Operand} {p : Pos} {b : NB} {f : Pos → NV} (h : chainN P rd ev (.store ty a v) = some ⟨[(p, some b)], none, f⟩) (hr : rd' p = rd p) :
    chainN P rd' ev (.store ty a v) = some ⟨[(p, some b)], none, f⟩ ∧ f .h = .tuple [] := by
  simp only [chainN] at h ⊢
  split at h
  · rename_i p' off he
    split at h
    · rename_i ti hti
      try rw [hti]
      try simp only
      split at h
      · cases h
      · rename_i l hl
        try rw [hl]
        try simp only
        split at h
        · rename_i hb
          try rw [hb]
          try simp only
          unfold storeE at h ⊢
          split at h
          · cases h
          · rename_i b0 hb0
            split at h
            · rename_i b2 hb2
              injection h with h
              injection h with h1 h2 h3
              injection h1 with h1 _
              injection h1 with h1 h4
              subst h1
              rw [hr, hb0]
              simp only [hb2]
              refine ⟨by rw [h3, h4], by rw [← h3]⟩
            · cases h
        · cases h
    · cases h
  · cases h
structure Inv2 (C : Ctx) (R : Rg) (tf : Tm) (w0 w00 : World) (ρ0 : Rho) (h0 : H) (dd : List Deferred) (hc : H) (τ : List (Nat × Pos × NB)) (listed : Array Bool) (ρ : Rho) (a : Act) (w : World) (h : H) : Prop where
  size : listed.size = R.ops.length
  closed : Closed R listed
  un : ∀ i, i < R.ops.length → ¬ Li listed i → (∃ p b, (i, p, b) ∈ τ) ∨ Timeless C R tf i
  hr : HR w0 C.ng ρ h w
  ext : Ext ρ0 h0 w00 ρ h w
  at_ : ∀ j p b, (j, p, b) ∈ τ → Li listed j → h.rd p = some b
  else_ : ∀ p, (∀ j b, (j, p, b) ∈ τ → ¬ Li listed j) → h.rd p = hc.rd p
  next : h.next = hc.next
  vals : Vals R tf listed ρ a
  defers : a.defers = dd
theorem tail_any (hd : distinctD R.ops = true) (hback : backO R.ops 0 = true) (hms : R.ms = masks [] R.ops) {last : Option Nat} {hc hf : H} {τ : List (Nat × Pos × NB)} (S : Stores C R tf last hc τ hf) (Q : Exit → Act → World → Prop)
    (hQ : ∀ a' w' ρ', HR w0 C.ng ρ' hf w' → Ext ρ0 h0 w00 ρ' hf w' → TR ρ' tf a'.tmps → a'.defers = dd → Q .normal a' w') :
    ∀ (fuel : Nat) (listed : Array Bool) (ρ : Rho) (a : Act) (w : World) (h : H), Inv2 C R tf w0 w00 ρ0 h0 dd hc τ listed ρ a w h → left listed R.ops.length ≤ fuel → wpAny C.P .any R.ops.toArray Q fuel listed a w := by
  intro fuel
  have hlt : ∀ {i : Nat} {o : Oper}, R.ops[i]? = some o → i < R.ops.length := by
    intro i o ho
    rcases Nat.lt_or_ge i R.ops.length with h | h
    · exact h
    · rw [List.getElem?_eq_none h] at ho; cases ho
  have fin : ∀ (listed : Array Bool) (ρ : Rho) (a : Act) (w : World) (h : H), Inv2 C R tf w0 w00 ρ0 h0 dd hc τ listed ρ a w h → (∀ i, i < R.ops.length → Li listed i) → Q .normal a w := by
    intro listed ρ a w h I hall
    have hj : ∀ j p b, (j, p, b) ∈ τ → Li listed j := by
      intro j p b hm
      obtain ⟨_, _, o, _, _, _, _, ho, _⟩ := S.fact j p b hm
      exact hall j (hlt ho)
    obtain ⟨k1, k2⟩ := I.hr.same I.ext (h' := hf) (fun p => by
      by_cases hp : ∃ j b, (j, p, b) ∈ τ
      · obtain ⟨j, b, hm⟩ := hp
        rw [S.at_ j p b hm, I.at_ j p b hm (hj j p b hm)]
      · have hn : ∀ j b, (j, p, b) ∉ τ := fun j b hm => hp ⟨j, b, hm⟩
        rw [S.else_ p hn, I.else_ p fun j b hm => absurd hm (hn j b)]) (by rw [S.next, I.next])
    refine hQ a w ρ k1 k2 ⟨I.vals.nt, fun i => ?_⟩ I.defers
    cases hdi : dstIn i R.ops 0 with
    | none => exact I.vals.old i hdi
    | some j =>
      obtain ⟨k, o, e1, e2, _⟩ := dstIn_some hdi
      exact I.vals.new i j hdi (hall j (by have := hlt e2; omega))
  induction fuel with
  | zero =>
    intro listed ρ a w h I hn
    have hall : ∀ i, i < R.ops.length → Li listed i := by
      intro i hi
      by_cases hl : Li listed i
      · exact hl
      · have := left_set hi I.size hl
        omega
    refine ⟨?_, fin listed ρ a w h I hall⟩
    cases hr : Region.ready .any R.ops.toArray listed with
    | nil => rfl
    | cons i l =>
      obtain ⟨h1, h2, _⟩ := mem_ready (i := i) (by rw [hr]; simp) I.size
      exact absurd (hall i h1) h2
  | succ fuel ih =>
    intro listed ρ a w h I hn
    refine ⟨fun hr => fin listed ρ a w h I (all_listed hback I.size hr), fun i hi => ?_⟩
    obtain ⟨hin, hl, o, ho, hafter⟩ := mem_ready hi I.size
    have hp := pre_ready hms I.closed ho hafter
    have his : i < listed.size := by rw [I.size]; exact hin
    have hn' : left (listed.setIfInBounds i true) R.ops.length ≤ fuel := by
      have := left_set hin I.size hl
      omega
    have hgl : Globs C ρ := I.hr.glob
    have ho' : R.ops.toArray[i]? = some o := by simpa using ho
    unfold wpOp
    rw [ho']
    simp only
    have quiet : (∀ p b, (i, p, b) ∉ τ) → ∀ {v : NV} {v' : Value}, Got tf o v → VR ρ v v' → Inv2 C R tf w0 w00 ρ0 h0 dd hc τ (listed.setIfInBounds i true) ρ (a.put o.dst v') w h := by
      intro hnτ v v' hg hv
      refine ⟨by simp [I.size], I.closed.set hp his, fun j hj hl2 => I.un j hj fun k => hl2 ((Li_set his j).2 (.inr k)), I.hr, I.ext, fun j p b hm hl2 => ?_, fun p hall => I.else_ p fun j b hm k => hall j b hm ((Li_set his j).2 (.inr k)), I.next, vals_put hd I.vals ρ.le_refl ho his hg hv, by rw [put_defers']; exact I.defers⟩
      rcases (Li_set his j).1 hl2 with rfl | k
      · exact absurd hm (hnτ p b)
      · exact I.at_ j p b hm k
    by_cases hτ : ∃ p b, (i, p, b) ∈ τ
    · obtain ⟨p, b, hm⟩ := hτ
      obtain ⟨_, _, o2, ty, aa, vv, f, e1, hg, hop, hch, hgot⟩ := S.fact i p b hm
      rw [ho] at e1
      cases e1
      have hrd : h.rd p = hc.rd p := I.else_ p fun j b' hm' hlj => by
        have := S.uniq _ _ _ _ _ _ hm hm' (.inr rfl)
        cases this
        exact hl hlj
      obtain ⟨hch2, hf⟩ := store_congr (rd' := h.rd) hch hrd
      have hw : Region.wanted o (yielded R.ops.toArray a.tmps) = true := by unfold Region.wanted; rw [hg]
      rw [hw, if_pos rfl]
      have hE : EvR ρ (evB C.ng R i tf hc.next.toNat) a.eval := (evB_ok I.vals hgl I.closed hp hl _).mono (Rho.below_le _ _)
      have hX := chain_ok I.hr hE (o := o) (by rw [hop]; exact hch2)
      refine .inl (StepTo.of_effects hX _ _ fun v' w' ρ' q1 q2 q3 => ?_)
      have hval : VR ρ' (.tuple []) v' := by rw [← hf]; exact q3
      have hheap : (Eff.app ⟨[(p, some b)], none, f⟩ h).1 = h.upd p (some b) := rfl
      rw [hheap] at q1 q2
      refine ih _ ρ' _ w' (h.upd p (some b)) ⟨by simp [I.size], I.closed.set hp his, fun j hj hl2 => I.un j hj fun k => hl2 ((Li_set his j).2 (.inr k)), q1, I.ext.trans q2, fun j p' b' hm' hl2 => ?_, fun p' hall => ?_, by rw [H.next_upd]; exact I.next,
        vals_put hd I.vals q2.le ho his hgot hval, by rw [put_defers']; exact I.defers⟩ hn'
      · rw [H.rd_upd]
        by_cases hpp : p = p'
        · subst hpp
          have := S.uniq _ _ _ _ _ _ hm hm' (.inr rfl)
          cases this
          rw [if_pos rfl]
        · rw [if_neg hpp]
          rcases (Li_set his j).1 hl2 with rfl | k
          · have := S.uniq _ _ _ _ _ _ hm hm' (.inl rfl)
            cases this
            exact absurd rfl hpp
          · exact I.at_ j p' b' hm' k
      · rw [H.rd_upd, if_neg]
        · exact I.else_ p' fun j b' hm' k => hall j b' hm' ((Li_set his j).2 (.inr k))
        · rintro rfl
          exact hall i b hm ((Li_set his i).2 (.inl rfl))
    · have hnτ : ∀ p b, (i, p, b) ∉ τ := fun p b hm => hτ ⟨p, b, hm⟩
      rcases I.un i hin hl with k | ⟨o2, e1, e2⟩
      · exact absurd k hτ
      · rw [ho] at e1
        cases e1
        rcases e2 with ⟨g1, g2⟩ | ⟨g1, v, g2, g3⟩
        · rw [guardF_ok hd I.vals hp g1]
          simp only [Bool.false_eq_true, if_false]
          exact ih _ _ _ _ _ (quiet hnτ g2 VR.unit) hn'
        · rw [guardF_ok hd I.vals hp g1, if_pos rfl]
          obtain ⟨v', q1, q2⟩ := pure_ok (ev_ok I.vals hgl I.closed hp hl) g2 w
          refine .inl ?_
          unfold Oper.wp
          rw [q1]
          exact ih _ _ _ _ _ (quiet hnτ g3 q2) hn'

/-- Whatever order is drawn: the plan's end comes of it. -/
theorem any_ok (hcall : CallOK C w0 call) (hd : distinctD R.ops = true) (hback : backO R.ops 0 = true) (hms : R.ms = masks [] R.ops) {hf : H} (Q : Exit → Act → World → Prop)
    (hQ : ∀ a' w' ρ', HR w0 C.ng ρ' hf w' → Ext ρ0 h0 w00 ρ' hf w' → TR ρ' tf a'.tmps → a'.defers = dd → Q .normal a' w') :
    ∀ (fuel : Nat) (last : Option Nat) (reads : List Nat) (h : H) (al : List (Nat × Pos × NB)) (es todo : List Nat) (listed : Array Bool) (ρ : Rho) (a : Act) (w : World),
      Tail C call R tf last reads h al es todo hf → Inv C R tf w0 w00 ρ0 h0 dd reads h al es todo listed ρ a w → left listed R.ops.length ≤ fuel → wpAny C.P .any R.ops.toArray Q fuel listed a w := by
  intro fuel
  have fin : ∀ (last : Option Nat) (reads : List Nat) (h : H) (al : List (Nat × Pos × NB)) (es todo : List Nat) (listed : Array Bool) (ρ : Rho) (a : Act) (w : World),
      Tail C call R tf last reads h al es todo hf → Inv C R tf w0 w00 ρ0 h0 dd reads h al es todo listed ρ a w → (∀ i, i < R.ops.length → Li listed i) → Q .normal a w := by
    intro last reads h al es todo listed ρ a w ht I hall
    have hlt : ∀ {i : Nat} {o : Oper}, R.ops[i]? = some o → i < R.ops.length := by
      intro i o ho
      rcases Nat.lt_or_ge i R.ops.length with h | h
      · exact h
      · rw [List.getElem?_eq_none h] at ho; cases ho
    have hops := tail_ops ht
    cases ht with
    | @done _ _ _ _ _ _ hc' _ τ hq hr hc hst =>
      have hp : ∀ i p b, (i, p, b) ∈ al → Li listed i := by
        intro i p b hm
        obtain ⟨o, _, ho, _⟩ := ((catch_alloc hc).1 i p b hm).1
        exact hall i (hlt ho)
      have hτ : ∀ j p b, (j, p, b) ∉ τ := by
        intro j p b hm
        have he : j ∈ τ.map (·.1) := List.mem_map.2 ⟨_, hm, rfl⟩
        obtain ⟨o, ho⟩ := hops j he
        exact I.es j he (hall j (hlt ho))
      obtain ⟨k1, k2⟩ := name_all hc I.hr I.ext fun i p b hm => I.pend i p b hm (hp i p b hm)
      obtain ⟨k1, k2⟩ := k1.same k2 (h' := hf) (fun p => hst.else_ p fun j b => hτ j p b) hst.next
      have hle : ρ.le (ρ.below hc'.next.toNat) := by
        intro p x hpx
        refine Rho.below_of ?_ hpx
        have hcn := catch_names hc
        rcases (I.dom p x hpx).2 with k | ⟨i, b, m, _⟩
        · omega
        · exact (hcn.2 _ _ _ m).2
      refine hQ a w _ k1 k2 ⟨I.vals.nt, fun i => ?_⟩ I.defers
      cases hdi : dstIn i R.ops 0 with
      | none => exact (I.vals.old i hdi).mono hle
      | some j =>
        obtain ⟨k, o, e1, e2, _⟩ := dstIn_some hdi
        exact (I.vals.new i j hdi (hall j (by have := hlt e2; omega))).mono hle
    | @step _ _ _ _ _ _ _ e _ _ _ _ _ _ _ _ _ _ _ _ _ _ _ _ _ _ =>
      obtain ⟨o, ho⟩ := hops e (by simp)
      exact absurd (hall e (hlt ho)) (I.es e (by simp))
  induction fuel with
  | zero =>
    intro last reads h al es todo listed ρ a w ht I hn
    have hall : ∀ i, i < R.ops.length → Li listed i := by
      intro i hi
      by_cases hl : Li listed i
      · exact hl
      · have := left_set hi I.size hl
        omega
    refine ⟨?_, fin last reads h al es todo listed ρ a w ht I hall⟩
    cases hr : Region.ready .any R.ops.toArray listed with
    | nil => rfl
    | cons i l =>
      obtain ⟨h1, h2, _⟩ := mem_ready (i := i) (by rw [hr]; simp) I.size
      exact absurd (hall i h1) h2
  | succ fuel ih =>
    intro last reads h al es todo listed ρ a w ht I hn
    refine ⟨fun hr => fin last reads h al es todo listed ρ a w ht I (all_listed hback I.size hr), fun i hi => ?_⟩
    obtain ⟨hin, hl, o, ho, hafter⟩ := mem_ready hi I.size
    have hp := pre_ready hms I.closed ho hafter
    have hn' : left (listed.setIfInBounds i true) R.ops.length ≤ fuel := by
      have := left_set hin I.size hl
      omega
    have ho' : R.ops.toArray[i]? = some o := by simpa using ho
    unfold wpOp
    rw [ho']
    simp only
    obtain ⟨tc1, tc2, tc3⟩ := tail_cases ht
    by_cases hes : i ∈ es
    · cases ht with
      | @done _ _ _ _ _ _ hc' _ τ hq hr hc hst =>
        -- the stores at the end
        obtain ⟨⟨j, p, b⟩, hm, rfl⟩ := List.mem_map.1 hes
        have hrest : ∀ k, k < R.ops.length → ¬ Li listed k → (∃ p' b', (k, p', b') ∈ τ) ∨ Timeless C R tf k := by
          intro k hk hlk
          rcases (hst.fact j p b hm).2.1 k hk with q | q | q
          · exact absurd (hp k q) hlk
          · exact .inl q
          · exact .inr q.1
        have hal : ∀ i p b, (i, p, b) ∈ al → Li listed i := by
          intro i p' b' hma
          by_cases hli : Li listed i
          · exact hli
          · exfalso
            obtain ⟨⟨o2, f, ho2, g1, g2, g3, g4⟩, _⟩ := (catch_alloc hc).1 i p' b' hma
            have hin2 : i < R.ops.length := by
              rcases Nat.lt_or_ge i R.ops.length with h | h
              · exact h
              · rw [List.getElem?_eq_none h] at ho2; cases ho2
            rcases (hst.fact j p b hm).2.1 i hin2 with q | ⟨p2, b2, q⟩ | ⟨_, o3, q1, q2⟩
            · exact hli (hp i q)
            · obtain ⟨_, _, o3, _, _, _, _, q1, _, q2, _⟩ := hst.fact i p2 b2 q
              rw [ho2] at q1
              cases q1
              rw [q2] at g4
              simp only [cls, reduceCtorEq] at g4
            · rw [ho2] at q1
              cases q1
              rw [g4] at q2
              cases q2
        obtain ⟨k1, k2⟩ := name_all hc I.hr I.ext fun i p b hm => I.pend i p b hm (hal i p b hm)
        have hle : ρ.le (ρ.below hc'.next.toNat) := by
          intro p x hpx
          refine Rho.below_of ?_ hpx
          have hcn := catch_names hc
          rcases (I.dom p x hpx).2 with k | ⟨i, b, m, _⟩
          · omega
          · exact (hcn.2 _ _ _ m).2
        have key := tail_any (w0 := w0) (w00 := w00) (ρ0 := ρ0) (h0 := h0) (dd := dd) hd hback hms hst Q hQ (fuel + 1) listed (ρ.below hc'.next.toNat) a w hc' ⟨I.size, I.closed, hrest, k1, k2, fun j' p' b' hm' hl' => absurd hl' (I.es j' (List.mem_map.2 ⟨_, hm', rfl⟩)), fun _ _ => rfl, rfl,
          ⟨I.vals.nt, fun y hy => (I.vals.old y hy).mono hle, fun y j hy hj => (I.vals.oldj y j hy hj).mono hle, fun y j hy hj => (I.vals.new y j hy hj).mono hle⟩, I.defers⟩ hn
        have := key.2 j hi
        unfold wpOp at this
        rw [ho'] at this
        exact this
      | @step _ _ _ _ _ _ _ e _ _ _ _ _ _ hq hr hc hfol hch hle hr2 hq2 hne hne2 hdis ht =>
        have hie : i = e := by
          rcases List.mem_cons.1 hes with k | k
          · exact k
          · exfalso
            rcases (tail_cases ht).2.1 i k with q | ⟨e', q1, q2⟩
            · exact I.es e (by simp) (hp e q)
            · exact I.es e' (by simp [q1]) (hp e' q2)
        subst hie
        have hn2 := tail_names ht
        obtain ⟨k1, k2⟩ := I.named hc hp
        obtain ⟨o2, e1, e2⟩ := hch
        rw [ho] at e1
        cases e1
        rcases e2 with ⟨g1, g2, rfl⟩ | ⟨g1, t, t', g2, g3⟩
        · rw [guardF_ok hd I.vals hp g1]
          simp only [Bool.false_eq_true, if_false]
          obtain ⟨ρ2, I2⟩ := I.next hd hc hp hle hn2 hne hne2 hr2 hq2 ho hin k1 (Ext.refl _ _ _) VR.unit g2
          exact ih _ _ _ _ _ _ _ _ _ _ ht I2 hn'
        · rw [guardF_ok hd I.vals hp g1, if_pos rfl]
          obtain ⟨v, hput, hstep⟩ := act_ok hcall k1 (evB_ok I.vals I.globs I.closed hp hl _) g2
          refine .inl (hstep _ _ fun v' w' ρ' q1 q2 q3 => ?_)
          obtain ⟨ρ2, I2⟩ := I.next hd hc hp hle hn2 hne hne2 hr2 hq2 ho hin q1 q2 q3 (g3 v hput)
          exact ih _ _ _ _ _ _ _ _ _ _ ht I2 hn'
    · by_cases hal : ∃ p b, (i, p, b) ∈ al
      · obtain ⟨p, b, hm⟩ := hal
        obtain ⟨o2, f, e1, g1, g2, g3⟩ := tail_alloc ht i p b hm
        rw [ho] at e1
        cases e1
        rw [guardF_ok hd I.vals hp g1, if_pos rfl]
        obtain ⟨v', w', ρ', q1, q2⟩ := I.alloc hd (tail_uniq ht) (tail_names ht) hm hp hes hl ho hin g2 g3.1
        refine .inl ?_
        unfold Oper.wp
        rw [q1]
        exact ih _ _ _ _ _ _ _ _ _ _ ht q2 hn'
      · have hal' : ∀ p b, (i, p, b) ∉ al := fun p b hm => hal ⟨p, b, hm⟩
        have time : Timeless C R tf i → (if Region.wanted o (yielded R.ops.toArray a.tmps) then o.wp C.P a w (wpAny C.P .any R.ops.toArray Q fuel (listed.setIfInBounds i true)) Q ∨ (o.asks C.P a w ∧ LetsOut Q) else wpAny C.P .any R.ops.toArray Q fuel (listed.setIfInBounds i true) (a.put o.dst undef) w) := by
          rintro ⟨o2, e1, e2⟩
          rw [ho] at e1
          cases e1
          rcases e2 with ⟨g1, g2⟩ | ⟨g1, v, g2, g3⟩
          · rw [guardF_ok hd I.vals hp g1]
            simp only [Bool.false_eq_true, if_false]
            exact ih _ _ _ _ _ _ _ _ _ _ ht (I.quiet hd ho hin hp hes hal' g2 VR.unit) hn'
          · rw [guardF_ok hd I.vals hp g1, if_pos rfl]
            obtain ⟨v', q1, q2⟩ := pure_ok (ev_ok I.vals I.globs I.closed hp hl) g2 w
            refine .inl ?_
            unfold Oper.wp
            rw [q1]
            exact ih _ _ _ _ _ _ _ _ _ _ ht (I.quiet hd ho hin hp hes hal' g3 q2) hn'
        have read : ReadF C R tf h i → (if Region.wanted o (yielded R.ops.toArray a.tmps) then o.wp C.P a w (wpAny C.P .any R.ops.toArray Q fuel (listed.setIfInBounds i true)) Q ∨ (o.asks C.P a w ∧ LetsOut Q) else wpAny C.P .any R.ops.toArray Q fuel (listed.setIfInBounds i true) (a.put o.dst undef) w) := by
          rintro ⟨o2, e1, e2⟩
          rw [ho] at e1
          cases e1
          rcases e2 with ⟨g1, g2⟩ | ⟨g1, gc, v, g2, g3⟩
          · rw [guardF_ok hd I.vals hp g1]
            simp only [Bool.false_eq_true, if_false]
            exact ih _ _ _ _ _ _ _ _ _ _ ht (I.quiet hd ho hin hp hes hal' g2 VR.unit) hn'
          · rw [guardF_ok hd I.vals hp g1, if_pos rfl]
            obtain ⟨v', q1, q2⟩ := read_ok I.hr (evB_ok I.vals I.globs I.closed hp hl _) gc g2
            refine .inl ?_
            unfold Oper.wp
            rw [q1]
            exact ih _ _ _ _ _ _ _ _ _ _ ht (I.quiet hd ho hin hp hes hal' g3 (q2.mono (Rho.below_le _ _))) hn'
        rcases I.un i hin hl with k | k | k
        · rcases tc1 i k with k | k | k | ⟨p, b, k, _⟩ | ⟨e', k1, k2⟩
          · exact absurd k hes
          · exact time k
          · exact read k.1
          · exact absurd k (hal' p b)
          · exact absurd (hp e' k2) (I.es e' k1)
        · exact read (tc3 i k)
        · exact time k
end
end Go.Ne
/- Regions that draw their order: a plan that was run says what is asked of it. -/
namespace Go.Ne
open Go Go.RowKit
variable [Sig]
section
variable {C : Ctx} {call : CallF} {R : Rg} {tf : Tm}

def Agree (R : Rg) (x : Nat) (t tf : Tm) : Prop := t.nt = tf.nt ∧ ∀ y, (dstIn y R.ops 0 = none ∨ ∃ j, dstIn y R.ops 0 = some j ∧ bit x j = true) → t.get y = tf.get y
theorem Agree.less {x x' : Nat} {t : Tm} (h : Agree R x t tf) (hx : ∀ i, bit x' i = true → bit x i = true) : Agree R x' t tf :=
  ⟨h.1, fun y hy => h.2 y (hy.imp id fun ⟨j, h1, h2⟩ => ⟨j, h1, hx j h2⟩)⟩
theorem evD_congr {x : Nat} {t : Tm} (ha : Agree R x t tf) {i : Nat} (hs : ∀ j, bit (maskAt R.ms i) j = true → bit x j = true) : evD C.ng R i t = evD C.ng R i tf := by
  funext o
  cases o with
  | tmp y =>
    simp only [evD]
    split
    · rename_i hy; exact ha.2 y (.inl hy)
    · rename_i j hy
      split
      · rename_i hb; exact ha.2 y (.inr ⟨j, hy, hs j hb⟩)
      · rfl
  | _ => rfl
theorem evB_congr {x : Nat} {t : Tm} (ha : Agree R x t tf) {i : Nat} (hs : ∀ j, bit (maskAt R.ms i) j = true → bit x j = true) (n : Nat) : evB C.ng R i t n = evB C.ng R i tf n := by
  funext o
  unfold evB
  rw [evD_congr ha hs]
theorem guard_congr (hd : distinctD R.ops = true) {x : Nat} {t : Tm} (ha : Agree R x t tf) {i : Nat} (hs : ∀ j, bit (maskAt R.ms i) j = true → bit x j = true) (g : Option (Nat × Bool)) : guardD R.ops (maskAt R.ms i) t g = guardD R.ops (maskAt R.ms i) tf g := by
  unfold guardD
  split
  · rfl
  · rename_i j b
    split
    · rename_i hb
      unfold guardN
      simp only
      split
      · rfl
      · rename_i o ho
        rw [nth_eq] at ho
        split
        · rfl
        · rename_i d hdst
          rw [ha.2 d (.inr ⟨j, by simpa using dstIn_of hd (k := 0) ho hdst, hs j hb⟩)]
    · rfl
theorem put_agree (hd : distinctD R.ops = true) {x i : Nat} {o : Oper} (ho : R.ops[i]? = some o) (hx : bit x i = false) {t t2 : Tm} {v : NV} (hp : t.put o.dst v = some t2) (ha : Agree R (mark i x) t2 tf) : Agree R x t tf ∧ Got tf o v := by
  have hdst : ∀ y, o.dst = some y → dstIn y R.ops 0 = some i := fun y hy => by simpa using dstIn_of hd (k := 0) ho hy
  have hmk : ∀ j, bit x j = true → bit (mark i x) j = true := fun j hj => by rw [bit_mark, hj]; simp
  cases hod : o.dst with
  | none =>
    rw [hod] at hp
    simp only [Tm.put, Option.some.injEq] at hp
    subst hp
    exact ⟨ha.less hmk, fun d h => by rw [hod] at h; cases h⟩
  | some d =>
    rw [hod] at hp
    have hg := Tm.get_put hp
    refine ⟨⟨by rw [← ha.1, (hg 0).2.1], fun y hy => ?_⟩, fun d' h => ?_⟩
    · have hne : d ≠ y := by
        rintro rfl
        rw [hdst d hod] at hy
        rcases hy with hy | ⟨j, h1, h2⟩
        · cases hy
        · cases h1; rw [hx] at h2; cases h2
      have h1 := (hg y).1
      rw [if_neg hne] at h1
      rw [← h1]
      exact ha.2 y (hy.imp id fun ⟨j, h1, h2⟩ => ⟨j, h1, hmk j h2⟩)
    · rw [hod] at h
      cases h
      have h1 := (hg d).1
      rw [if_pos rfl] at h1
      refine ⟨?_, ?_⟩
      · rw [← h1]
        exact (ha.2 d (.inr ⟨i, hdst d hod, by rw [bit_mark]; simp⟩)).symm
      · rw [← ha.1, (hg 0).2.1]
        exact (hg 0).2.2
theorem mayN_some {i x : Nat} (h : mayN R.ms i x = true) : bit x i = false ∧ ∀ j, bit (maskAt R.ms i) j = true → bit x j = true := by
  unfold mayN at h
  split at h
  · cases h
  · rename_i hb
    exact ⟨hb, fun j hj => sub_bit h hj⟩

theorem quiet_agree (hd : distinctD R.ops = true) {h : H} {last : Option Nat} : ∀ {l : List Nat} {t t1 : Tm} {x x1 : Nat}, quietD C R h last l t x = some (t1, x1) →
    (∀ i, bit x1 i = true ↔ bit x i = true ∨ i ∈ l) ∧ (∀ i ∈ l, bit x i = false) ∧ (∀ i ∈ l, ∀ j, bit (maskAt R.ms i) j = true → bit x1 j = true) ∧
      (Agree R x1 t1 tf → Agree R x t tf ∧ ∀ i ∈ l, QF C R tf last h i ∧ ∃ o, R.ops[i]? = some o ∧ (GuardF R tf i o false → Got tf o (.tuple [])) ∧ ∀ d, o.dst = some d → d < tf.nt)
  | [], t, t1, x, x1, hq => by
    simp only [quietD, Option.some.injEq, Prod.mk.injEq] at hq
    obtain ⟨rfl, rfl⟩ := hq
    exact ⟨by simp, by simp, by simp, fun ha => ⟨ha, by simp⟩⟩
  | i :: l, t, t1, x, x1, hq => by
    simp only [quietD] at hq
    split at hq
    · cases hq
    · rename_i hmay
      obtain ⟨m1, m2⟩ := mayN_some hmay
      split at hq
      · cases hq
      · rename_i o ho
        rw [nth_eq] at ho
        split at hq
        · cases hq
        · rename_i v hv
          split at hq
          · cases hq
          · rename_i t2 hp
            obtain ⟨k1, k2, k2', k3⟩ := quiet_agree hd hq
            have kx : ∀ j, bit x j = true → bit x1 j = true := fun j hj => (k1 j).2 (.inl (by rw [bit_mark, hj]; simp))
            refine ⟨fun j => ?_, fun j hj => ?_, fun j hj q hb => ?_, fun ha => ?_⟩
            · rw [k1 j, bit_mark]
              simp only [Bool.or_eq_true, decide_eq_true_eq, List.mem_cons]
              constructor
              · rintro ((rfl | h) | h)
                · exact .inr (.inl rfl)
                · exact .inl h
                · exact .inr (.inr h)
              · rintro (h | rfl | h)
                · exact .inl (.inr h)
                · exact .inl (.inl rfl)
                · exact .inr h
            · rcases List.mem_cons.1 hj with rfl | hj
              · exact m1
              · have := k2 j hj
                rw [bit_mark] at this
                simp at this
                exact this.2
            · rcases List.mem_cons.1 hj with rfl | hj
              · exact kx q (m2 q hb)
              · exact k2' j hj q hb
            · obtain ⟨a1, a2⟩ := k3 ha
              obtain ⟨b1, b2⟩ := put_agree hd ho m1 hp a1
              refine ⟨b1, fun j hj => ?_⟩
              rcases List.mem_cons.1 hj with rfl | hj
              · have hlt : ∀ d, o.dst = some d → d < tf.nt := fun d hd' => (b2 d hd').2
                unfold quietV at hv
                rw [guard_congr hd b1 m2, evD_congr b1 m2, evB_congr b1 m2] at hv
                split at hv
                · cases hv
                · rename_i hg
                  cases hv
                  exact ⟨.inl ⟨o, ho, .inl ⟨hg, b2⟩⟩, o, ho, fun _ => b2, hlt⟩
                · rename_i hg
                  have hnf : GuardF R tf j o false → Got tf o (.tuple []) := fun hf => by unfold GuardF at hf; rw [hg] at hf; cases hf
                  split at hv
                  · exact ⟨.inl ⟨o, ho, .inr ⟨hg, v, hv, b2⟩⟩, o, ho, hnf, hlt⟩
                  · rename_i hcls
                    have read : readN C.P h.rd (evB C.ng R j tf h.next.toNat) o.op = some v → ReadF C R tf h j := fun hv => ⟨o, ho, .inr ⟨hg, by rw [hcls]; rfl, v, hv, b2⟩⟩
                    split at hv
                    · rename_i hfol
                      exact ⟨.inr ⟨read hv, by unfold follows; exact hfol⟩, o, ho, hnf, hlt⟩
                    · cases hv
                  · cases hv
              · exact a2 j hj
theorem catch_agree (hd : distinctD R.ops = true) {need : Option Nat} : ∀ {l : List Nat} {t t1 : Tm} {h h1 : H} {x x1 : Nat}, catchD C R need l t h x = some (t1, h1, x1) →
    (∀ i, bit x1 i = true ↔ bit x i = true ∨ i ∈ l) ∧ (∀ i ∈ l, bit x i = false) ∧ (∀ i ∈ l, ∀ j, bit (maskAt R.ms i) j = true → bit x1 j = true) ∧
      (Agree R x1 t1 tf → Agree R x t tf ∧ ∃ al, Catch C R tf need h l al h1 ∧ ∀ i p b, (i, p, b) ∈ al → i ∈ l)
  | [], t, t1, h, h1, x, x1, hq => by
    simp only [catchD, Option.some.injEq, Prod.mk.injEq] at hq
    obtain ⟨rfl, rfl, rfl⟩ := hq
    exact ⟨by simp, by simp, by simp, fun ha => ⟨ha, [], .nil, by simp⟩⟩
  | i :: l, t, t1, h, h1, x, x1, hq => by
    simp only [catchD] at hq
    split at hq
    · cases hq
    · rename_i hmay
      obtain ⟨m1, m2⟩ := mayN_some hmay
      split at hq
      · cases hq
      · rename_i hneed
        split at hq
        · cases hq
        · rename_i o ho
          rw [nth_eq] at ho
          have step : ∀ {t2 : Tm} {h2 : H}, catchD C R need l t2 h2 (mark i x) = some (t1, h1, x1) →
              (∀ j, bit x1 j = true ↔ bit x j = true ∨ j ∈ i :: l) ∧ (∀ j ∈ i :: l, bit x j = false) ∧ (∀ j ∈ i :: l, ∀ q, bit (maskAt R.ms j) q = true → bit x1 q = true) ∧ (∀ j ∈ l, j ≠ i) ∧
                (Agree R x1 t1 tf → Agree R (mark i x) t2 tf ∧ ∃ al, Catch C R tf need h2 l al h1 ∧ ∀ i p b, (i, p, b) ∈ al → i ∈ l) := by
            intro t2 h2 hq
            obtain ⟨k1, k2, k2', k3⟩ := catch_agree hd hq
            have kx : ∀ j, bit x j = true → bit x1 j = true := fun j hj => (k1 j).2 (.inl (by rw [bit_mark, hj]; simp))
            refine ⟨fun j => ?_, fun j hj => ?_, fun j hj q hb => ?_, fun j hj => ?_, k3⟩
            · rw [k1 j, bit_mark]
              simp only [Bool.or_eq_true, decide_eq_true_eq, List.mem_cons]
              constructor
              · rintro ((rfl | h) | h)
                · exact .inr (.inl rfl)
                · exact .inl h
                · exact .inr (.inr h)
              · rintro (h | rfl | h)
                · exact .inl (.inr h)
                · exact .inl (.inl rfl)
                · exact .inr h
            · rcases List.mem_cons.1 hj with rfl | hj
              · exact m1
              · have := k2 j hj
                rw [bit_mark] at this
                simp at this
                exact this.2
            · rcases List.mem_cons.1 hj with rfl | hj
              · exact kx q (m2 q hb)
              · exact k2' j hj q hb
            · have := k2 j hj
              rw [bit_mark] at this
              simp at this
              exact fun e => this.1 e.symm
          split at hq
          · cases hq
          · rename_i hg
            split at hq
            · cases hq
            · rename_i t2 hp
              obtain ⟨s1, s2, s3, s4, s5⟩ := step hq
              refine ⟨s1, s2, s3, fun ha => ?_⟩
              obtain ⟨a1, al, a2, a3⟩ := s5 ha
              obtain ⟨b1, b2⟩ := put_agree hd ho m1 hp a1
              rw [guard_congr hd b1 m2] at hg
              exact ⟨b1, al, .time ⟨o, ho, .inl ⟨hg, b2⟩⟩ hneed a2, fun j p b hm => by simp [a3 j p b hm]⟩
          · rename_i hg
            split at hq
            · split at hq
              · cases hq
              · rename_i v hv
                split at hq
                · cases hq
                · rename_i t2 hp
                  obtain ⟨s1, s2, s3, s4, s5⟩ := step hq
                  refine ⟨s1, s2, s3, fun ha => ?_⟩
                  obtain ⟨a1, al, a2, a3⟩ := s5 ha
                  obtain ⟨b1, b2⟩ := put_agree hd ho m1 hp a1
                  rw [guard_congr hd b1 m2] at hg
                  rw [evD_congr b1 m2] at hv
                  exact ⟨b1, al, .time ⟨o, ho, .inr ⟨hg, v, hv, b2⟩⟩ hneed a2, fun j p b hm => by simp [a3 j p b hm]⟩
            · rename_i hcls
              split at hq
              · cases hq
              · rename_i b f hv
                split at hq
                · cases hq
                · rename_i t2 hp
                  obtain ⟨s1, s2, s3, s4, s5⟩ := step hq
                  refine ⟨s1, s2, s3, fun ha => ?_⟩
                  obtain ⟨a1, al, a2, a3⟩ := s5 ha
                  obtain ⟨b1, b2⟩ := put_agree hd ho m1 hp a1
                  rw [guard_congr hd b1 m2] at hg
                  rw [evB_congr b1 m2] at hv
                  refine ⟨b1, (i, h.next, b) :: al, .alloc ⟨o, f, ho, hg, hv, b2, hcls⟩ hneed (fun p b' hm => s4 i (a3 i p b' hm) rfl) a2, fun j p b' hm => ?_⟩
                  rcases List.mem_cons.1 hm with hm | hm
                  · cases hm; simp
                  · simp [a3 j p b' hm]
            · cases hq
end
end Go.Ne
/- Regions that draw their order: a plan's run is right. -/
namespace Go.Ne
open Go Go.RowKit
variable [Sig]
section
variable {C : Ctx} {call : CallF} {R : Rg} {tf : Tm}

theorem actN_put {ev : Operand → NV} {o : Oper} {t t' : Tm} {h h' : H} (ha : actN C call ev o t h = some (t', h')) : ∃ v, t.put o.dst v = some t' := by
  unfold actN at ha
  split at ha
  · split at ha
    · split at ha
      · split at ha
        · rename_i ht; cases ha; exact ⟨_, ht⟩
        · cases ha
      · cases ha
    · cases ha
  · split at ha
    · exact ⟨_, (applyE_some ha).2⟩
    · cases ha
theorem chain_agree (hd : distinctD R.ops = true) {last : Option Nat} {e : Nat} {t t1 : Tm} {h h1 : H} {x : Nat} (hq : chainD C call R last e t h x = some (t1, h1)) (ha : Agree R (mark e x) t1 tf) :
    Agree R x t tf ∧ bit x e = false ∧ (∀ j, bit (maskAt R.ms e) j = true → bit x j = true) ∧ follows last (maskAt R.ms e) = true ∧ ChainF C call R tf e h h1 := by
  unfold chainD at hq
  split at hq
  · cases hq
  · rename_i hmay
    obtain ⟨m1, m2⟩ := mayN_some hmay
    split at hq
    · cases hq
    · rename_i hfol
      split at hq
      · cases hq
      · rename_i o ho
        rw [nth_eq] at ho
        split at hq
        · cases hq
        · rename_i hg
          split at hq
          · rename_i t2 hp
            cases hq
            obtain ⟨b1, b2⟩ := put_agree hd ho m1 hp ha
            rw [guard_congr hd b1 m2] at hg
            exact ⟨b1, m1, m2, hfol, o, ho, .inl ⟨hg, b2, rfl⟩⟩
          · cases hq
        · rename_i hg
          obtain ⟨v0, hp0⟩ := actN_put hq
          obtain ⟨b1, b2⟩ := put_agree hd ho m1 hp0 ha
          rw [guard_congr hd b1 m2] at hg
          rw [evB_congr b1 m2] at hq
          exact ⟨b1, m1, m2, hfol, o, ho, .inr ⟨hg, t, t1, hq, fun v hp => (put_agree hd ho m1 hp ha).2⟩⟩

theorem memN_mem {i : Nat} : ∀ {l : List Nat}, memN i l = true → i ∈ l
  | [], h => by simp only [memN, reduceCtorEq] at h
  | j :: l, h => by
    simp only [memN] at h
    split at h
    · rename_i hb; rw [Nat.eq_of_beq_eq_true hb]; simp
    · simp [memN_mem h]
theorem alone_all {P : Program} {late all : List Nat} {m : Nat} : ∀ {l : List Nat}, aloneN P R late all m l = true → ∀ i ∈ l, bit m i = true ∨ i ∈ all ∨ (i ∈ late ∧ clsAt P R.ops i = .pure)
  | [], _, i, hi => by simp at hi
  | j :: l, h, i, hi => by
    simp only [aloneN] at h
    have rest : aloneN P R late all m l = true → i ∈ l → bit m i = true ∨ i ∈ all ∨ (i ∈ late ∧ clsAt P R.ops i = .pure) := fun h hi => alone_all h i hi
    split at h
    · rename_i hb
      rcases List.mem_cons.1 hi with rfl | hi
      · exact .inl hb
      · exact rest h hi
    · split at h
      · rename_i hb
        rcases List.mem_cons.1 hi with rfl | hi
        · exact .inr (.inl (memN_mem hb))
        · exact rest h hi
      · split at h
        · cases h
        · rename_i hb
          split at h
          · rename_i hc
            rcases List.mem_cons.1 hi with rfl | hi
            · exact .inr (.inr ⟨memN_mem hb, hc⟩)
            · exact rest h hi
          · cases h
theorem upTo_mem : ∀ (n k i : Nat), k ≤ i → i < k + n → i ∈ upTo n k
  | 0, k, i, h1, h2 => by omega
  | n + 1, k, i, h1, h2 => by
    simp only [upTo, List.mem_cons]
    by_cases h : i = k
    · exact .inl h
    · exact .inr (upTo_mem n (Nat.succ k) i (by omega) (by omega))
theorem hasP_false {p : Pos} : ∀ {l : List (Pos × Option NB)}, hasP p l = false → ∀ q x, (q, x) ∈ l → p ≠ q
  | [], _, q, x, hm => by simp at hm
  | (q0, x0) :: l, h, q, x, hm => by
    simp only [hasP] at h
    split at h
    · cases h
    · rename_i hb
      rcases List.mem_cons.1 hm with hm | hm
      · cases hm; exact Pos.beq_false hb
      · exact hasP_false h q x hm
theorem upds_not {p : Pos} : ∀ {l : List (Pos × Option NB)} {h : H}, (∀ q x, (q, x) ∈ l → p ≠ q) → (h.upds l).rd p = h.rd p
  | [], _, _ => rfl
  | (q, x) :: l, h, hn => by
    simp only [H.upds]
    rw [upds_not (fun q x hm => hn q x (by simp [hm])), H.rd_upd, if_neg (fun e => hn q x (by simp) e.symm)]
theorem tail_agree (hd : distinctD R.ops = true) {h : H} {last : Option Nat} {late all : List Nat} : ∀ {l : List Nat} {t t1 : Tm} {x x1 : Nat} {ups : List (Pos × Option NB)}, tailD C R h last late all l t x = some (t1, x1, ups) →
    (∀ i, bit x1 i = true ↔ bit x i = true ∨ i ∈ l) ∧ (∀ i ∈ l, bit x i = false) ∧
      (Agree R x1 t1 tf → Agree R x t tf ∧ ∃ τ : List (Nat × Pos × NB), τ.map (·.1) = l ∧ ups = τ.map (fun q => (q.2.1, some q.2.2)) ∧
        (∀ j p b j' p' b', (j, p, b) ∈ τ → (j', p', b') ∈ τ → (j = j' ∨ p = p') → (j, p, b) = (j', p', b')) ∧ (∀ j p b, (j, p, b) ∈ τ → ∀ h0 : H, (h0.upds ups).rd p = some b) ∧
        ∀ j p b, (j, p, b) ∈ τ → follows last (maskAt R.ms j) = true ∧ aloneN C.P R late all (maskAt R.ms j) (upTo (lenL R.ops) 0) = true ∧
          ∃ o ty a v f, R.ops[j]? = some o ∧ o.guard = none ∧ o.op = .store ty a v ∧ chainN C.P h.rd (evB C.ng R j tf h.next.toNat) (.store ty a v) = some ⟨[(p, some b)], none, f⟩ ∧ Got tf o (.tuple []))
  | [], t, t1, x, x1, ups, hq => by
    simp only [tailD, Option.some.injEq, Prod.mk.injEq] at hq
    obtain ⟨rfl, rfl, rfl⟩ := hq
    exact ⟨by simp, by simp, fun ha => ⟨ha, [], rfl, rfl, by simp, by simp, by simp⟩⟩
  | j :: l, t, t1, x, x1, ups, hq => by
    simp only [tailD] at hq
    split at hq
    · cases hq
    · rename_i hmay
      obtain ⟨m1, m2⟩ := mayN_some hmay
      split at hq
      · cases hq
      · rename_i hfol
        split at hq
        · cases hq
        · rename_i halone
          split at hq
          · cases hq
          · rename_i o ho
            rw [nth_eq] at ho
            split at hq
            · cases hq
            · rename_i hg
              split at hq
              · rename_i ty a v hop
                split at hq
                · rename_i p b f hch
                  split at hq
                  · cases hq
                  · rename_i t2 hp
                    split at hq
                    · cases hq
                    · rename_i t3 x3 ups3 hrec
                      split at hq
                      · cases hq
                      · rename_i hhas
                        simp only [Option.some.injEq, Prod.mk.injEq] at hq
                        obtain ⟨rfl, rfl, rfl⟩ := hq
                        obtain ⟨k1, k2, k3⟩ := tail_agree hd hrec
                        have hne : ∀ i ∈ l, i ≠ j := by
                          intro i hi
                          have := k2 i hi
                          rw [bit_mark] at this
                          simp at this
                          exact fun e => this.1 e.symm
                        refine ⟨fun i => ?_, fun i hi => ?_, fun ha => ?_⟩
                        · rw [k1 i, bit_mark]
                          simp only [Bool.or_eq_true, decide_eq_true_eq, List.mem_cons]
                          constructor
                          · rintro ((rfl | h) | h)
                            · exact .inr (.inl rfl)
                            · exact .inl h
                            · exact .inr (.inr h)
                          · rintro (h | rfl | h)
                            · exact .inl (.inr h)
                            · exact .inl (.inl rfl)
                            · exact .inr h
                        · rcases List.mem_cons.1 hi with rfl | hi
                          · exact m1
                          · have := k2 i hi
                            rw [bit_mark] at this
                            simp at this
                            exact this.2
                        · obtain ⟨a1, τ, e1, e2, e3, e4, e5⟩ := k3 ha
                          obtain ⟨b1, b2⟩ := put_agree hd ho m1 hp a1
                          rw [evB_congr b1 m2] at hch
                          have hpn : ∀ i p' b', (i, p', b') ∈ τ → p ≠ p' := by
                            intro i p' b' hm
                            exact hasP_false hhas p' (some b') (by rw [e2]; exact List.mem_map.2 ⟨_, hm, rfl⟩)
                          have hjn : ∀ i p' b', (i, p', b') ∈ τ → i ≠ j := fun i p' b' hm => hne i (by rw [← e1]; exact List.mem_map.2 ⟨_, hm, rfl⟩)
                          refine ⟨b1, (j, p, b) :: τ, by simp [e1], by simp [e2], fun i q c i' q' c' h1 h2 h3 => ?_, fun i q c hm h0 => ?_, fun i q c hm => ?_⟩
                          · rcases List.mem_cons.1 h1 with q1 | q1
                            · cases q1
                              rcases List.mem_cons.1 h2 with q2 | q2
                              · exact q2.symm
                              · rcases h3 with h3 | h3
                                · exact absurd h3.symm (hjn _ _ _ q2)
                                · exact absurd h3 (hpn _ _ _ q2)
                            · rcases List.mem_cons.1 h2 with q2 | q2
                              · cases q2
                                rcases h3 with h3 | h3
                                · exact absurd h3 (hjn _ _ _ q1)
                                · exact absurd h3.symm (hpn _ _ _ q1)
                              · exact e3 _ _ _ _ _ _ q1 q2 h3
                          · simp only [H.upds]
                            rcases List.mem_cons.1 hm with q1 | q1
                            · cases q1
                              rw [upds_not (fun q' x' hm' => hasP_false hhas q' x' hm'), H.rd_upd, if_pos rfl]
                            · exact e4 i q c q1 _
                          · rcases List.mem_cons.1 hm with q1 | q1
                            · cases q1
                              exact ⟨hfol, halone, o, ty, a, v, f, ho, hg, hop, hch, b2⟩
                            · exact e5 i q c q1
                · cases hq
              · cases hq

theorem stages_agree (hd : distinctD R.ops = true) {hf : H} : ∀ {l : List Stage} {last : Option Nat} {reads : List Nat} {t : Tm} {h : H} {x : Nat}, stagesD C call R l last reads t h x = some (tf, hf) → Agree R x t tf
  | [], _, _, _, _, _, hq => by simp only [stagesD, reduceCtorEq] at hq
  | s :: l, last, reads, t, h, x, hq => by
    simp only [stagesD] at hq
    split at hq
    · cases hq
    · rename_i t1 x1 hqu
      split at hq
      · cases hq
      · split at hq
        · split at hq
          · cases hq
          · rename_i t2 h2 x2 hca
            split at hq
            · cases hq
            · rename_i t3 x3 ups3 hta
              split at hq
              · simp only [Option.some.injEq, Prod.mk.injEq] at hq
                obtain ⟨rfl, rfl⟩ := hq
                exact ((quiet_agree hd hqu).2.2.2 ((catch_agree hd hca).2.2.2 ((tail_agree hd hta).2.2 ⟨rfl, fun _ _ => rfl⟩).1).1).1
              · cases hq
        · rename_i e
          split at hq
          · cases hq
          · rename_i t2 h2 x2 hca
            split at hq
            · cases hq
            · rename_i t3 h3 hch
              split at hq
              · cases hq
              · have ih := stages_agree hd hq
                exact ((quiet_agree hd hqu).2.2.2 ((catch_agree hd hca).2.2.2 (chain_agree hd hch ih).1).1).1

def ReadI (C : Ctx) (R : Rg) (tf : Tm) (x i : Nat) : Prop := bit x i = true ∧ (∀ j, bit (maskAt R.ms i) j = true → bit x j = true) ∧ ∃ o, R.ops[i]? = some o ∧ isRead (cls C.P o.op) = true ∧ (GuardF R tf i o false → Got tf o (.tuple [])) ∧ ∀ d, o.dst = some d → d < tf.nt
theorem ReadI.mono {x x' i : Nat} (h : ReadI C R tf x i) (hx : ∀ j, bit x j = true → bit x' j = true) : ReadI C R tf x' i :=
  ⟨hx _ h.1, fun j hj => hx j (h.2.1 j hj), h.2.2⟩
theorem recheck_ok (hd : distinctD R.ops = true) {h : H} {t : Tm} {x : Nat} (ha : Agree R x t tf) : ∀ {l : List Nat}, (∀ i ∈ l, ReadI C R tf x i) → recheckD C R h t l = true → ∀ i ∈ l, ReadF C R tf h i
  | [], _, _, i, hi => by simp at hi
  | j :: l, hr, hq, i, hi => by
    obtain ⟨r1, r2, o, ho, r3, r4, r5⟩ := hr j (by simp)
    simp only [recheckD] at hq
    rw [nth_eq, ho] at hq
    simp only at hq
    rw [guard_congr hd ha r2] at hq
    have rest : recheckD C R h t l = true → i ∈ l → ReadF C R tf h i := fun hq hi => recheck_ok hd ha (fun i hi => hr i (by simp [hi])) hq i hi
    split at hq
    · cases hq
    · rename_i hg
      rcases List.mem_cons.1 hi with rfl | hi
      · exact ⟨o, ho, .inl ⟨hg, r4 hg⟩⟩
      · exact rest hq hi
    · rename_i hg
      rw [evB_congr ha r2] at hq
      split at hq
      · cases hq
      · rename_i v hv
        split at hq
        · rename_i hdst
          rcases List.mem_cons.1 hi with rfl | hi
          · exact ⟨o, ho, .inr ⟨hg, r3, v, hv, fun d h => by rw [hdst] at h; cases h⟩⟩
          · exact rest hq hi
        · rename_i d hdst
          split at hq
          · rename_i hb
            rcases List.mem_cons.1 hi with rfl | hi
            · refine ⟨o, ho, .inr ⟨hg, r3, v, hv, fun d' h => ⟨?_, r5 d' h⟩⟩⟩
              rw [hdst] at h
              cases h
              rw [beqV_eq 20 hb]
              exact (ha.2 d (.inr ⟨i, by simpa using dstIn_of hd (k := 0) ho hdst, r1⟩)).symm
            · exact rest hq hi
          · cases hq
theorem stages_tail (hd : distinctD R.ops = true) {hf : H} : ∀ {l : List Stage} {last : Option Nat} {reads : List Nat} {t : Tm} {h : H} {x : Nat}, stagesD C call R l last reads t h x = some (tf, hf) → (∀ i ∈ reads, ReadI C R tf x i) →
    ∃ al es todo, Tail C call R tf last reads h al es todo hf ∧ (∀ i ∈ todo, bit x i = false) ∧ (∀ i p b, (i, p, b) ∈ al → i ∈ todo) ∧ (∀ i ∈ es, i ∈ todo) ∧ ∀ i, i < R.ops.length → bit x i = true ∨ i ∈ todo
  | [], _, _, _, _, _, hq, _ => by simp only [stagesD, reduceCtorEq] at hq
  | s :: l, last, reads, t, h, x, hq, hreads => by
    simp only [stagesD] at hq
    split at hq
    · cases hq
    · rename_i t1 x1 hqu
      obtain ⟨q1, q2, q3, q4⟩ := quiet_agree (tf := tf) hd hqu
      have qx : ∀ j, bit x j = true → bit x1 j = true := fun j hj => (q1 j).2 (.inl hj)
      split at hq
      · cases hq
      · rename_i hre
        split at hq
        · split at hq
          · cases hq
          · rename_i t2 h2 x2 hca
            obtain ⟨c1, c2, c3, c4⟩ := catch_agree (tf := tf) hd hca
            have cx : ∀ j, bit x1 j = true → bit x2 j = true := fun j hj => (c1 j).2 (.inl hj)
            split at hq
            · cases hq
            · rename_i t3 x3 ups3 hta
              obtain ⟨d1, d2, d3⟩ := tail_agree (tf := tf) hd hta
              split at hq
              · rename_i hall
                simp only [Option.some.injEq, Prod.mk.injEq] at hq
                obtain ⟨rfl, rfl⟩ := hq
                have hall := Nat.eq_of_beq_eq_true hall
                obtain ⟨a0, τ, e1, e2, e3, e4, e5⟩ := d3 ⟨rfl, fun _ _ => rfl⟩
                obtain ⟨a1, al, a2, a3⟩ := c4 a0
                obtain ⟨b1, b2⟩ := q4 a1
                have hS : Stores C R t3 last h2 τ (h2.upds ups3) := by
                  refine ⟨fun j p b hm => ?_, e3, fun j p b hm => e4 j p b hm h2, fun p hn => upds_not fun q x hm => ?_, H.next_upds _ _⟩
                  · obtain ⟨g1, g2, g3⟩ := e5 j p b hm
                    refine ⟨g1, fun i hi => ?_, g3⟩
                    rcases alone_all g2 i (upTo_mem _ _ _ (Nat.zero_le _) (by rw [lenL_eq]; omega)) with k | k | ⟨k, kc⟩
                    · exact .inl k
                    · rw [← e1] at k
                      obtain ⟨⟨j', p', b'⟩, k1, rfl⟩ := List.mem_map.1 k
                      exact .inr (.inl ⟨p', b', k1⟩)
                    · have ho : R.ops[i]? = some R.ops[i] := by simp [hi]
                      have hcl : cls C.P R.ops[i].op = .pure := by
                        unfold clsAt at kc
                        rw [nth_eq, ho] at kc
                        exact kc
                      refine .inr (.inr ⟨?_, R.ops[i], ho, hcl⟩)
                      rw [appL_eq] at k
                      rcases List.mem_append.1 k with k | k
                      · rcases (b2 i k).1 with q | ⟨⟨o, ho2, q⟩, _⟩
                        · exact q
                        · rcases q with ⟨q1, q2⟩ | ⟨_, q2, _⟩
                          · exact ⟨o, ho2, .inl ⟨q1, q2⟩⟩
                          · rw [ho] at ho2
                            cases ho2
                            rw [hcl] at q2
                            cases q2
                      · obtain ⟨r1, r2⟩ := catch_alloc a2
                        rcases (r2 i k).2 with q | ⟨p', b', q⟩
                        · exact q
                        · obtain ⟨⟨o, f, ho2, _, _, _, q4⟩, _⟩ := r1 i p' b' q
                          rw [ho] at ho2
                          cases ho2
                          rw [hcl] at q4
                          cases q4
                  · rintro rfl
                    rw [e2] at hm
                    obtain ⟨⟨j', p', b'⟩, k1, k2⟩ := List.mem_map.1 hm
                    simp only [Prod.mk.injEq] at k2
                    obtain ⟨rfl, _⟩ := k2
                    exact hn j' b' k1
                have hdone := Tail.done (call := call) (fun i hi => (b2 i hi).1) (recheck_ok hd a1 (fun i hi => (hreads i hi).mono qx) hre) a2 hS
                rw [e1] at hdone
                refine ⟨al, s.tail, s.quiet ++ s.catchup ++ s.tail, hdone, fun i hi => ?_, fun i p b hm => by simp [a3 i p b hm], fun i hi => by simp [hi], fun i hi => ?_⟩
                · have back : ∀ j, bit x1 j = false → bit x j = false := by
                    intro j hj
                    cases hb : bit x j with
                    | false => rfl
                    | true => rw [qx j hb] at hj; cases hj
                  rcases List.mem_append.1 hi with hi | hi
                  · rcases List.mem_append.1 hi with hi | hi
                    · exact q2 i hi
                    · exact back i (c2 i hi)
                  · refine back i ?_
                    cases hb : bit x1 i with
                    | false => rfl
                    | true => have := d2 i hi; rw [cx i hb] at this; cases this
                · have : bit x3 i = true := by rw [hall, lenL_eq]; exact bit_all hi
                  rcases (d1 i).1 this with k | k
                  · rcases (c1 i).1 k with k | k
                    · rcases (q1 i).1 k with k | k
                      · exact .inl k
                      · exact .inr (by simp [k])
                    · exact .inr (by simp [k])
                  · exact .inr (by simp [k])
              · cases hq
        · rename_i e _
          split at hq
          · cases hq
          · rename_i t2 h2 x2 hca
            obtain ⟨c1, c2, c3, c4⟩ := catch_agree (tf := tf) hd hca
            have cx : ∀ j, bit x1 j = true → bit x2 j = true := fun j hj => (c1 j).2 (.inl hj)
            split at hq
            · cases hq
            · rename_i t3 h3 hch
              split at hq
              · cases hq
              · rename_i hble
                have hble := Nat.le_of_ble_eq_true hble
                have mx : ∀ j, bit x2 j = true → bit (mark e x2) j = true := fun j hj => by rw [bit_mark, hj]; simp
                have ag := stages_agree hd hq
                obtain ⟨d1, d2, d3, d4, d5⟩ := chain_agree hd hch ag
                obtain ⟨a1, al, a2, a3⟩ := c4 d1
                obtain ⟨b1, b2⟩ := q4 a1
                have hreads2 : ∀ i ∈ filterN (fun i => negB (bit (maskAt R.ms e) i)) (appL reads (readsIn C.P R.ops s.quiet)), ReadI C R tf (mark e x2) i := by
                  intro i hi
                  rw [filterN_eq, appL_eq, List.mem_filter, List.mem_append] at hi
                  rcases hi.1 with k | k
                  · exact (hreads i k).mono fun j hj => mx j (cx j (qx j hj))
                  · unfold readsIn at k
                    rw [filterN_eq, List.mem_filter] at k
                    obtain ⟨k1, k2⟩ := k
                    obtain ⟨_, o, ho, g1, g2⟩ := b2 i k1
                    refine ⟨mx i (cx i ((q1 i).2 (.inr k1))), fun j hj => mx j (cx j (q3 i k1 j hj)), o, ho, ?_, g1, g2⟩
                    unfold clsAt at k2
                    rw [nth_eq, ho] at k2
                    exact k2
                obtain ⟨al2, es, todo, t1', t2', t3', t4', t5'⟩ := stages_tail hd hq hreads2
                have tb : ∀ i ∈ todo, bit x2 i = false ∧ e ≠ i := by
                  intro i hi
                  have := t2' i hi
                  rw [bit_mark] at this
                  simp at this
                  exact ⟨this.2, this.1⟩
                refine ⟨al ++ al2, e :: es, s.quiet ++ s.catchup ++ e :: todo, ?_, fun i hi => ?_, fun i p b hm => ?_, fun i hi => ?_, fun i hi => ?_⟩
                · refine .step (fun i hi => (b2 i hi).1) (recheck_ok hd a1 (fun i hi => (hreads i hi).mono qx) hre) a2 d4 d5 hble (fun i hi => ?_) (fun i hi => ?_) (fun k => (tb e (t4' e k)).2 rfl) (fun p b hm => (tb e (t3' e p b hm)).2 rfl) (fun i p b hm p' b' hm2 => ?_) t1'
                  · cases hb : bit (maskAt R.ms e) i with
                    | true => exact .inl rfl
                    | false =>
                      refine .inr ?_
                      rw [filterN_eq, appL_eq, List.mem_filter, List.mem_append]
                      exact ⟨.inl hi, by simp [hb, negB]⟩
                  · rcases (b2 i hi).1 with k | ⟨⟨o, ho, k⟩, _⟩
                    · exact .inl k
                    · rcases k with ⟨g1, g2⟩ | ⟨g1, g2, _⟩
                      · exact .inl ⟨o, ho, .inl ⟨g1, g2⟩⟩
                      · cases hb : bit (maskAt R.ms e) i with
                        | true => exact .inr (.inl rfl)
                        | false =>
                          refine .inr (.inr ?_)
                          rw [filterN_eq, appL_eq, List.mem_filter, List.mem_append]
                          refine ⟨.inr ?_, by simp [hb, negB]⟩
                          unfold readsIn
                          rw [filterN_eq, List.mem_filter]
                          refine ⟨hi, ?_⟩
                          unfold clsAt
                          rw [nth_eq, ho]
                          exact g2
                  · have h1 := (tb i (t3' i p' b' hm2)).1
                    rw [(c1 i).2 (.inr (a3 i p b hm))] at h1
                    cases h1
                · have back : ∀ j, bit x2 j = false → bit x j = false := by
                    intro j hj
                    cases hb : bit x j with
                    | false => rfl
                    | true => rw [cx j (qx j hb)] at hj; cases hj
                  rcases List.mem_append.1 hi with hi | hi
                  · rcases List.mem_append.1 hi with hi | hi
                    · exact q2 i hi
                    · have := c2 i hi
                      cases hb : bit x i with
                      | false => rfl
                      | true => rw [qx i hb] at this; cases this
                  · rcases List.mem_cons.1 hi with rfl | hi
                    · exact back _ d2
                    · exact back _ (tb i hi).1
                · rcases List.mem_append.1 hm with hm | hm
                  · simp [a3 i p b hm]
                  · simp [t3' i p b hm]
                · rcases List.mem_cons.1 hi with rfl | hi
                  · simp
                  · simp [t4' i hi]
                · rcases t5' i hi with k | k
                  · rw [bit_mark] at k
                    simp only [Bool.or_eq_true, decide_eq_true_eq] at k
                    rcases k with rfl | k
                    · exact .inr (by simp)
                    · rcases (c1 i).1 k with k | k
                      · rcases (q1 i).1 k with k | k
                        · exact .inl k
                        · exact .inr (by simp [k])
                      · exact .inr (by simp [k])
                  · exact .inr (by simp [k])

/-- A region that draws its order. -/
theorem drawn_ok {w0 w : World} {ρ : Rho} {h hf : H} {t : Tm} {a : Act} (hcall : CallOK C w0 call) {id : Nat} {ops : Array Oper} (hm : C.P.follows .mixedOrders = true) (r : HR w0 C.ng ρ h w) (ht : TR ρ t a.tmps) (hs : drawnN C call ops.toList t h = some (tf, hf)) (Q : Exit → Act → World → Prop)
    (hQ : ∀ a' w' ρ', HR w0 C.ng ρ' hf w' → Ext ρ h w ρ' hf w' → TR ρ' tf a'.tmps → a'.defers = a.defers → Q .normal a' w') : (Code.region id ops true).wp C.P Q a w := by
  refine wp_region_any hm ?_
  unfold drawnN at hs
  split at hs
  · cases hs
  · rename_i hd
    split at hs
    · cases hs
    · rename_i hback
      have ag := stages_agree (R := ⟨ops.toList, masks [] ops.toList, t⟩) hd hs
      obtain ⟨al, es, todo, t1, t2, t3, t4, t5⟩ := stages_tail (R := ⟨ops.toList, masks [] ops.toList, t⟩) hd hs (by simp)
      have hbel : ρ.below h.next.toNat = ρ := by
        funext p
        unfold Rho.below
        split
        · rfl
        · rename_i hp
          cases e : ρ p with
          | none => rfl
          | some x => exact absurd (r.dom p x e).1 hp
      have hnot : ∀ i, ¬ Li (Array.replicate ops.size false) i := by
        intro i hi
        unfold Li at hi
        rw [Array.getD_eq_getD_getElem?, Array.getElem?_replicate] at hi
        split at hi <;> simp at hi
      have key := any_ok (C := C) (call := call) (R := ⟨ops.toList, masks [] ops.toList, t⟩) (tf := tf) (w0 := w0) (w00 := w) (ρ0 := ρ) (h0 := h) (dd := a.defers) hcall hd hback rfl Q hQ
        ops.size none [] h al es todo (Array.replicate ops.size false) ρ a { w with drawn := w.drawn + 1 } t1 ?_ ?_
      · simpa using key
      · refine ⟨by simp, fun i hi => absurd hi (hnot i), fun i hi _ => ?_, fun e _ => hnot e, ?_, ?_, ⟨?_, fun y _ => ?_, fun y j _ _ => ht.at_ y, fun y j _ hj => absurd hj (hnot j)⟩, fun i p b _ hl => absurd hl (hnot i), fun q x hq => ?_, rfl⟩
        · rcases t5 i hi with k | k
          · rw [bit_zero] at k; cases k
          · exact .inl k
        · rw [hbel]; exact r.drawn _
        · rw [hbel]; exact (Ext.refl ρ h w).drawn (n := w.drawn) (m := w.drawn + 1)
        · rw [ht.nt]; exact ag.1
        · rename_i hy
          have := ag.2 y (.inl hy)
          rw [← this]
          exact ht.at_ y
        · have := r.dom q x hq
          exact ⟨this.2, .inl this.1⟩
      · unfold left
        have : (List.range ops.toList.length).countP (fun i => !(Array.replicate ops.size false).getD i false) ≤ (List.range ops.toList.length).length := List.countP_le_length
        simpa using this
end
end Go.Ne
/- The evaluator's regions against the model's. -/
namespace Go.Ne
open Go Go.RowKit
variable [Sig]
section
variable {C : Ctx} {w0 : World}

theorem any_inv {P : Program} {ops : List Oper} {Q : Exit → Act → World → Prop} (hback : backO ops 0 = true) (J : Array Bool → Act → World → Prop)
    (step : ∀ listed a w i o, J listed a w → listed.size = ops.length → i < ops.length → ¬ Li listed i → ops[i]? = some o → (∀ e ∈ o.after.toList, bindsE e = true → Li listed e.on) → wpOp P ops.toArray Q i (J (listed.setIfInBounds i true)) a w)
    (fin : ∀ listed a w, J listed a w → listed.size = ops.length → (∀ i, i < ops.length → Li listed i) → Q .normal a w) :
    ∀ (fuel : Nat) (listed : Array Bool) (a : Act) (w : World), J listed a w → listed.size = ops.length → left listed ops.length ≤ fuel → wpAny P .any ops.toArray Q fuel listed a w := by
  intro fuel
  induction fuel with
  | zero =>
    intro listed a w hJ hs hn
    have hall : ∀ i, i < ops.length → Li listed i := by
      intro i hi
      by_cases hl : Li listed i
      · exact hl
      · have := left_set hi hs hl
        omega
    refine ⟨?_, fin listed a w hJ hs hall⟩
    cases hr : Region.ready .any ops.toArray listed with
    | nil => rfl
    | cons i l =>
      obtain ⟨h1, h2, _⟩ := mem_ready (R := ⟨ops, [], ⟨0, .e⟩⟩) (i := i) (by rw [hr]; simp) hs
      exact absurd (hall i h1) h2
  | succ fuel ih =>
    intro listed a w hJ hs hn
    refine ⟨fun hr => fin listed a w hJ hs (all_listed (R := ⟨ops, [], ⟨0, .e⟩⟩) hback hs hr), fun i hi => ?_⟩
    obtain ⟨hin, hl, o, ho, hafter⟩ := mem_ready (R := ⟨ops, [], ⟨0, .e⟩⟩) hi hs
    have hn' : left (listed.setIfInBounds i true) ops.length ≤ fuel := by
      have := left_set hin hs hl
      simp only at this
      omega
    exact wpOp_mono (fun a' w' hJ' => ih _ a' w' hJ' (by simpa using hs) hn') (step listed a w i o hJ hs hin hl ho hafter)
theorem isBoolT_some {P : Program} {t : TypeId} (h : isBoolT (ty P t) = true) : ∃ i b, P.info? t = some i ∧ i.zero = some (.bool b) ∧ P.underlying t = some .bool ∧ i.size = 1 := by
  unfold isBoolT at h
  split at h
  · rename_i sz by_ ag b hti
    obtain ⟨i, z, d, hi, hz, hd, h1, h2, h3, h4, h5, h6⟩ := ty_some' hti
    have hzz : VR (fun _ => none) (.bool b) z := by
      have := ofValue_ok (fun _ => none) 10 z
      rw [← h5] at this
      exact this
    have hzb := hzz.bool_inv
    subst hzb
    refine ⟨i, b, hi, hz, ?_, by simpa [Value.cells] using h6.symm⟩
    have hk : tkOf P d = .bool := h4.symm
    cases d <;> simp only [tkOf, reduceCtorEq] at hk
    · exact hd
    all_goals (split at hk <;> cases hk)
  · cases h
theorem coin_ok {P : Program} {ops : List Oper} {d r : Tmp} (hc : coinOf P ops = some (d, r)) (hback : backO ops 0 = true) {a0 : Act} {w1 : World} {Q : Exit → Act → World → Prop} (hd : d < a0.tmps.size) (hr : r < a0.tmps.size)
    (hQ : ∀ a t z b, a.defers = a0.defers → a.tmps.size = a0.tmps.size → (∀ y, y ≠ d → y ≠ r → a.tmps.getD y undef = a0.tmps.getD y undef) → a.tmps.getD r undef = .bool b → Q .normal a { w1 with heap := w1.heap.push (.cells #[.bool z] t) }) :
    ∀ (listed : Array Bool), listed.size = ops.length → (∀ i, ¬ Li listed i) → wpAny P .any ops.toArray Q ops.length listed a0 w1 := by
  unfold coinOf at hc
  split at hc
  · rename_i d' t ty0 p0 e0 t1 aa x1 ty1 p1 e1 t2 bb x2 ty2 p2 e2 r' t3 cc ty3 p3 e3
    split at hc
    · rename_i hbt
      obtain ⟨i, zb, hi, hz, hu, hsz⟩ := isBoolT_some hbt
      split at hc
      · rename_i b1 b2 b3 b4 b5 b6 b7
        split at hc
        · rename_i m1 m2 m3
          cases hc
          have b1 := Nat.eq_of_beq_eq_true b1
          have b2 := Nat.eq_of_beq_eq_true b2
          have b3 := Nat.eq_of_beq_eq_true b3
          have b4 := Nat.eq_of_beq_eq_true b4
          have b5 := Nat.eq_of_beq_eq_true b5
          have b6 := Nat.eq_of_beq_eq_true b6
          have hrd : r ≠ d := by rintro rfl; simp at b7
          subst b1; subst b2; subst b3; subst b4; subst b5; subst b6
          intro listed hs hno
          let J : Array Bool → Act → World → Prop := fun listed a w => (¬ Li listed 0 ∧ ¬ Li listed 1 ∧ ¬ Li listed 2 ∧ ¬ Li listed 3 ∧ a = a0 ∧ w = w1) ∨
            (Li listed 0 ∧ ∃ z, w = { w1 with heap := w1.heap.push (.cells #[.bool z] t) } ∧ a.defers = a0.defers ∧ a.tmps.size = a0.tmps.size ∧ a.tmps.getD cc undef = .pointer (some ⟨w1.heap.size, 0, none⟩) ∧
              (∀ y, y ≠ cc → y ≠ r → a.tmps.getD y undef = a0.tmps.getD y undef) ∧ (Li listed 3 → ∃ b, a.tmps.getD r undef = .bool b))
          have later : ∀ {listed : Array Bool} {a : Act} {w : World} {es : Array Edge}, J listed a w → bit (maskOf [0, 1, 1] es.toList) 0 = true → (∀ e ∈ es.toList, bindsE e = true → Li listed e.on) →
              ∃ z, w = { w1 with heap := w1.heap.push (.cells #[.bool z] t) } ∧ a.defers = a0.defers ∧ a.tmps.size = a0.tmps.size ∧ a.tmps.getD cc undef = .pointer (some ⟨w1.heap.size, 0, none⟩) ∧
              (∀ y, y ≠ cc → y ≠ r → a.tmps.getD y undef = a0.tmps.getD y undef) ∧ (Li listed 3 → ∃ b, a.tmps.getD r undef = .bool b) := by
            intro listed a w es hJ hm ha
            rcases hJ with ⟨n0, n1, n2, _⟩ | hJ
            · exfalso
              obtain ⟨e, q1, q2, q3⟩ := maskOf_bit hm
              have hl := ha e q1 q2
              rcases q3 with q3 | ⟨m, q3, q4⟩
              · rw [q3] at hl; exact n0 hl
              · generalize e.on = k at q3 hl
                match k, q3, hl with
                | 0, _, hl => exact n0 hl
                | 1, _, hl => exact n1 hl
                | 2, _, hl => exact n2 hl
            · exact hJ.2
          have later0 : ∀ {listed : Array Bool} {a : Act} {w : World} {es : Array Edge}, J listed a w → bit (maskOf [0, 1, 1] es.toList) 0 = true → (∀ e ∈ es.toList, bindsE e = true → Li listed e.on) → Li listed 0 := by
            intro listed a w es hJ hm ha
            rcases hJ with ⟨n0, n1, n2, _⟩ | hJ
            · exfalso
              obtain ⟨e, q1, q2, q3⟩ := maskOf_bit hm
              have hl := ha e q1 q2
              rcases q3 with q3 | ⟨m, q3, q4⟩
              · rw [q3] at hl; exact n0 hl
              · generalize e.on = k at q3 hl
                match k, q3, hl with
                | 0, _, hl => exact n0 hl
                | 1, _, hl => exact n1 hl
                | 2, _, hl => exact n2 hl
            · exact hJ.1
          have stores : ∀ {a : Act} {w : World} {listed : Array Bool} {k : Nat} {x : Bool} {tt : TypeId} {pp : String} {es : Array Edge}, k ≠ 0 → k ≠ 3 → k < listed.size → J listed a w → bit (maskOf [0, 1, 1] es.toList) 0 = true → (∀ e ∈ es.toList, bindsE e = true → Li listed e.on) →
              (⟨none, .store t (.tmp cc) (.const (.bool x)), tt, pp, es, none⟩ : Oper).wp P a w (J (listed.setIfInBounds k true)) Q := by
            intro a w listed k x tt pp es hk0 hk3 hks hJ hm ha
            have h0 := (later0 hJ hm ha)
            obtain ⟨z, rfl, j1, j2, j3, j4, j5⟩ := later hJ hm ha
            have hw : ({ w1 with heap := w1.heap.push (.cells #[.bool z] t) } : World).heap[w1.heap.size]? = some (.cells #[.bool z] t (0, 0)) := by simp
            obtain ⟨c', q1, q2, q3⟩ := run_storeCells_lay (P := P) (β := w1.heap.size) (off := 0) [.bool x] 0 #[.bool z] _ hw (by simp) (by simp) (by simp [Value.oneCell'])
            have hc' : c' = #[.bool x] := by
              apply Array.ext_getElem?
              intro k
              rw [q2 k]
              match k with
              | 0 => simp
              | k + 1 => simp
            subst hc'
            have hrun : (execOp a.eval ⟨none, .store t (.tmp cc) (.const (.bool x)), tt, pp, es, none⟩).run P { w1 with heap := w1.heap.push (.cells #[.bool z] t) } = .ok .skip { w1 with heap := w1.heap.push (.cells #[.bool x] t) } := by
              have hcs : (Value.bool x).cells = #[.bool x] := rfl
              simp only [execOp, Act.eval, j3, Instr.storeAt, Instr.sureAddr, storeVar, Sem.run_bind, Sem.run_pure, Result.andThen_ok, run_sizeOf_of hi, hcs, hsz]
              have : ¬ ((#[Value.bool x] : Array Value).size ≠ 1) := by simp
              rw [if_neg this]
              have q3' : (storeCells ⟨w1.heap.size, 0, none⟩ (#[Value.bool x] : Array Value).toList).run P { w1 with heap := w1.heap.push (.cells #[.bool z] t) } = _ := q3
              rw [q3']
              have hset : (w1.heap.push (.cells #[.bool z] t)).setIfInBounds w1.heap.size (.cells #[.bool x] t) = w1.heap.push (.cells #[.bool x] t) := by
                apply Array.ext_getElem?
                intro k
                rw [Array.getElem?_setIfInBounds, Array.getElem?_push, Array.getElem?_push]
                by_cases hk : w1.heap.size = k
                · subst hk; simp
                · rw [if_neg hk, if_neg (fun e => hk e.symm), if_neg (fun e => hk e.symm)]
              simp only [World.put, hset]
              rfl
            unfold Oper.wp
            rw [hrun]
            refine .inr ⟨(Li_set hks 0).2 (.inr h0), x, rfl, j1, j2, j3, j4, fun hl => ?_⟩
            rcases (Li_set hks 3).1 hl with k3 | k3
            · exact absurd k3 hk3
            · exact j5 k3
          refine any_inv hback J ?_ ?_ _ listed a0 w1 (.inl ⟨hno 0, hno 1, hno 2, hno 3, rfl, rfl⟩) hs (by
            unfold left
            have : (List.range _).countP (fun i => !listed.getD i false) ≤ (List.range 4).length := List.countP_le_length
            simpa using this)
          · intro listed a w k o hJ hs hk hnl ho ha
            have hks : k < listed.size := by omega
            unfold wpOp
            have ho' := ho
            rw [← List.getElem?_toArray] at ho'
            rw [ho']
            simp only
            match k, ho with
            | 0, ho =>
              simp at ho
              subst ho
              simp only [Region.wanted, if_true]
              refine .inl ?_
              rcases hJ with ⟨n0, n1, n2, n3, rfl, rfl⟩ | hJ
              · unfold Oper.wp
                have hrun : (execOp a.eval ⟨some cc, .alloc t, ty0, p0, e0, none⟩).run P w = .ok (.value (.pointer (some ⟨w.heap.size, 0, none⟩))) { w with heap := w.heap.push (.cells #[.bool zb] t) } := by
                  simp only [execOp]
                  refine vrun ?_
                  simp only [Instr.alloc, Sem.run_bind, run_zeroValue_of hi hz, Result.andThen_ok, newVar, run_newRow, Sem.run_pure]
                  rfl
                rw [hrun]
                refine .inr ⟨(Li_set hks 0).2 (.inl rfl), zb, rfl, put_defers' _ _ _, by simp [Act.put], ?_, fun y hy _ => ?_, fun hl => ?_⟩
                · rw [put_getD, if_pos ⟨rfl, hd⟩]
                · rw [put_getD, if_neg (fun k => hy (by injection k.1 with k; exact k.symm))]
                · rcases (Li_set hks 3).1 hl with k3 | k3
                  · cases k3
                  · exact absurd k3 n3
              · exact absurd hJ.1 hnl
            | 1, ho =>
              simp at ho
              subst ho
              simp only [Region.wanted, if_true]
              exact .inl (stores (by omega) (by omega) hks hJ m1 ha)
            | 2, ho =>
              simp at ho
              subst ho
              simp only [Region.wanted, if_true]
              exact .inl (stores (by omega) (by omega) hks hJ m2 ha)
            | 3, ho =>
              simp at ho
              subst ho
              simp only [Region.wanted, if_true]
              have h0 := later0 hJ m3 ha
              obtain ⟨z, rfl, j1, j2, j3, j4, j5⟩ := later hJ m3 ha
              refine .inl ?_
              unfold Oper.wp
              have hrun : (execOp a.eval ⟨some r, .load t (.tmp cc), ty3, p3, e3, none⟩).run P { w1 with heap := w1.heap.push (.cells #[.bool z] t) } = .ok (.value (.bool z)) { w1 with heap := w1.heap.push (.cells #[.bool z] t) } := by
                simp only [execOp]
                refine vrun ?_
                have hcell : ({ w1 with heap := w1.heap.push (.cells #[.bool z] t) } : World).cell? ⟨w1.heap.size, 0, none⟩ = some (.bool z) := by simp [World.cell?]
                simp only [Act.eval, j3, Instr.loadAt, Instr.sureAddr, loadVar, Sem.run_bind, Sem.run_pure, Result.andThen_ok, run_isAgg_of hu, isAggD, Bool.false_eq_true, if_false]
                simp []
              rw [hrun]
              refine .inr ⟨(Li_set hks 0).2 (.inr h0), z, rfl, by rw [put_defers']; exact j1, by simp [Act.put]; exact j2, ?_, fun y hy hy2 => ?_, fun _ => ⟨z, ?_⟩⟩
              · rw [put_getD, if_neg (fun k => hrd (by injection k.1))]; exact j3
              · rw [put_getD, if_neg (fun k => hy2 (by injection k.1 with k; exact k.symm))]; exact j4 y hy hy2
              · rw [put_getD, if_pos ⟨rfl, by rw [j2]; exact hr⟩]
            | k + 4, ho => simp at ho
          · intro listed a w hJ hs hall
            rcases hJ with ⟨n0, _⟩ | ⟨_, z, rfl, j1, j2, j3, j4, j5⟩
            · exact absurd (hall 0 (by simp)) n0
            · obtain ⟨b, hb⟩ := j5 (hall 3 (by simp))
              exact hQ a t z b j1 j2 j4 hb
        · cases hc
      · cases hc
    · cases hc
  · cases hc

theorem region_shape {call : CallF} {ops : List Oper} {draw : Bool} {t : Tm} {h : H} : regionN C call ops draw t h = .bad ∨ ∃ t' h', regionN C call ops draw t h = .norm t' h' := by
  unfold regionN
  repeat' split
  all_goals first | exact .inl rfl | exact .inr ⟨_, _, rfl⟩
theorem region_ok {call : CallF} (hcall : CallOK C w0 call) (hm : C.P.follows .mixedOrders = true) {ρ : Rho} {h : H} {w : World} {t : Tm} {a : Act} {Q : Exit → Act → World → Prop} {id : Nat} {ops : Array Oper} {draw : Bool} (r : HR w0 C.ng ρ h w) (ht : TR ρ t a.tmps)
    {t' : Tm} {h' : H} (hreg : regionN C call ops.toList draw t h = .norm t' h') (hA : ∀ a' w' ρ', HR w0 C.ng ρ' h' w' → Ext ρ h w ρ' h' w' → TR ρ' t' a'.tmps → a'.defers = a.defers → Q .normal a' w') : (Code.region id ops draw).wp C.P Q a w := by
  unfold regionN at hreg
  cases draw with
  | false =>
    simp only at hreg
    split at hreg
    · rename_i t1 h1 hs
      cases hreg
      refine wp_region_list ?_
      have := seq_ok (ops := ops.toList) hcall ops.toList Q r ht hs hA
      simpa using this
    · cases hreg
  | true =>
    simp only at hreg
    split at hreg
    · rename_i d rr hco
      split at hreg
      · cases hreg
      · rename_i hback
        split at hreg
        · rename_i t1 hp1
          split at hreg
          · rename_i t2 hp2
            cases hreg
            have g1 := Tm.get_put hp1
            have g2 := Tm.get_put hp2
            have hd : d < a.tmps.size := by rw [ht.nt]; exact (g1 0).2.2
            have hr2 : rr < a.tmps.size := by rw [ht.nt, ← (g1 0).2.1]; exact (g2 0).2.2
            refine wp_region_any hm ?_
            have key := coin_ok (P := C.P) (Q := Q) (a0 := a) (w1 := { w with drawn := w.drawn + 1 }) hco hback hd hr2 ?_ (Array.replicate ops.size false) (by simp) ?_
            · simpa using key
            · intro a' tt z b q1 q2 q3 q4
              refine hA a' _ ρ ((r.drawn (w.drawn + 1)).push (w' := { w with heap := w.heap.push (.cells #[.bool z] tt), drawn := w.drawn + 1 }) (o := .cells #[.bool z] tt) rfl rfl rfl rfl).1 ?_ ⟨?_, fun y => ?_⟩ q1
              · exact Ext.push
              · rw [q2, ht.nt, (g2 0).2.1, (g1 0).2.1]
              · rw [(g2 y).1]
                split
                · rename_i hy
                  subst hy
                  rw [q4]
                  exact .anyBool b
                · rename_i hy
                  rw [(g1 y).1]
                  split
                  · exact .bad _
                  · rename_i hy2
                    rw [q3 y (fun e => hy2 e.symm) (fun e => hy e.symm)]
                    exact ht.at_ y
            · intro i hi
              unfold Li at hi
              rw [Array.getD_eq_getD_getElem?, Array.getElem?_replicate] at hi
              split at hi <;> simp at hi
          · cases hreg
        · cases hreg
    · split at hreg
      · rename_i t1 h1 hs
        cases hreg
        exact drawn_ok hcall hm r ht hs Q hA
      · cases hreg
end
end Go.Ne
/- Two branches, of which nobody knows which one runs: what both leave. -/
namespace Go.Ne
open Go Go.RowKit
variable [Sig]
/-- Only these operations' temporaries change; a heap with changes on top keeps its base. -/
def Keep (ops : List Oper) (t t' : Tm) (h h' : H) : Prop := (∀ y, (∀ o ∈ ops, o.dst ≠ some y) → t'.get y = t.get y) ∧ t'.nt = t.nt ∧ ∀ o, h.over = some o → h'.base = h.base ∧ ∃ o', h'.over = some o'
theorem Keep.refl (ops : List Oper) (t : Tm) (h : H) : Keep ops t t h h := ⟨fun _ _ => rfl, rfl, fun o ho => ⟨rfl, o, ho⟩⟩
theorem Keep.trans {ops : List Oper} {t t1 t2 : Tm} {h h1 h2 : H} (a : Keep ops t t1 h h1) (b : Keep ops t1 t2 h1 h2) : Keep ops t t2 h h2 := by
  refine ⟨fun y hy => (b.1 y hy).trans (a.1 y hy), b.2.1.trans a.2.1, fun o ho => ?_⟩
  obtain ⟨q1, o1, q2⟩ := a.2.2 o ho
  obtain ⟨q3, o2, q4⟩ := b.2.2 o1 q2
  exact ⟨q3.trans q1, o2, q4⟩
theorem Keep.put {ops : List Oper} {t t' : Tm} {h h' : H} {o : Oper} {v : NV} (ho : o ∈ ops) (hp : t.put o.dst v = some t') (hh : ∀ o, h.over = some o → h'.base = h.base ∧ ∃ o', h'.over = some o') : Keep ops t t' h h' := by
  cases hd : o.dst with
  | none =>
    rw [hd] at hp
    simp only [Tm.put, Option.some.injEq] at hp
    subst hp
    exact ⟨fun _ _ => rfl, rfl, hh⟩
  | some d =>
    rw [hd] at hp
    have g := Tm.get_put hp
    refine ⟨fun y hy => ?_, (g 0).2.1, hh⟩
    rw [(g y).1, if_neg]
    rintro rfl
    exact hy o ho hd
theorem upd_keep (h : H) (p : Pos) (x : Option NB) : ∀ o, h.over = some o → (h.upd p x).base = h.base ∧ ∃ o', (h.upd p x).over = some o' := by
  intro o ho
  unfold H.upd
  rw [ho]
  exact ⟨rfl, _, rfl⟩
theorem upds_keep : ∀ (l : List (Pos × Option NB)) (h : H) (o : _), h.over = some o → (h.upds l).base = h.base ∧ ∃ o', (h.upds l).over = some o'
  | [], h, o, ho => ⟨rfl, o, ho⟩
  | (p, x) :: l, h, o, ho => by
    obtain ⟨q1, o1, q2⟩ := upd_keep h p x o ho
    obtain ⟨q3, o2, q4⟩ := upds_keep l (h.upd p x) o1 q2
    simp only [H.upds]
    exact ⟨q3.trans q1, o2, q4⟩
theorem alloc_keep (h : H) (b : NB) : ∀ o, h.over = some o → (h.alloc b).base = h.base ∧ ∃ o', (h.alloc b).over = some o' := by
  intro o ho
  obtain ⟨q1, o1, q2⟩ := upd_keep h h.next (some b) o ho
  unfold H.alloc
  exact ⟨q1, o1, q2⟩
theorem app_keep (e : Eff) (h : H) : ∀ o, h.over = some o → (e.app h).1.base = h.base ∧ ∃ o', (e.app h).1.over = some o' := by
  intro o ho
  unfold Eff.app
  cases e.new with
  | none => exact upds_keep e.ups h o ho
  | some b =>
    obtain ⟨q1, o1, q2⟩ := upds_keep e.ups h o ho
    obtain ⟨q3, o2, q4⟩ := alloc_keep (h.upds e.ups) b o1 q2
    exact ⟨q3.trans q1, o2, q4⟩

section
variable {C : Ctx} {w0 : World}
theorem act_keep {ops : List Oper} {ev : Operand → NV} {o : Oper} {t t' : Tm} {h h' : H} (ho : o ∈ ops) (ha : actN C noCall ev o t h = some (t', h')) : Keep ops t t' h h' := by
  unfold actN at ha
  split at ha
  · split at ha
    · simp only [noCall, reduceCtorEq] at ha
    · cases ha
  · split at ha
    · obtain ⟨rfl, hp⟩ := applyE_some ha
      exact Keep.put ho hp (app_keep _ h)
    · cases ha
theorem same_keep {h : H} : ∀ o, h.over = some o → h.base = h.base ∧ ∃ o', h.over = some o' := fun o ho => ⟨rfl, o, ho⟩
theorem seq_keep {ops all : List Oper} : ∀ {l : List Oper} {t t' : Tm} {h h' : H}, (∀ o ∈ l, o ∈ all) → seqN C noCall ops l t h = some (t', h') → Keep all t t' h h'
  | [], t, t', h, h', _, hs => by simp only [seqN, Option.some.injEq, Prod.mk.injEq] at hs; obtain ⟨rfl, rfl⟩ := hs; exact Keep.refl _ _ _
  | o :: l, t, t', h, h', hl, hs => by
    simp only [seqN] at hs
    split at hs
    · rename_i t1 h1 hst
      have k2 := seq_keep (fun o ho => hl o (by simp [ho])) hs
      refine Keep.trans ?_ k2
      unfold stepN at hst
      split at hst
      · cases hst
      · split at hst
        · rename_i hp; cases hst; exact Keep.put (hl o (by simp)) hp same_keep
        · cases hst
      · exact act_keep (hl o (by simp)) hst
    · cases hs
theorem quiet_keep {R : Rg} {last : Option Nat} {h : H} : ∀ {l : List Nat} {t t' : Tm} {x x' : Nat}, quietD C R h last l t x = some (t', x') → Keep R.ops t t' h h
  | [], t, t', x, x', hs => by simp only [quietD, Option.some.injEq, Prod.mk.injEq] at hs; obtain ⟨rfl, rfl⟩ := hs; exact Keep.refl _ _ _
  | i :: l, t, t', x, x', hs => by
    simp only [quietD] at hs
    split at hs
    · cases hs
    · split at hs
      · cases hs
      · rename_i o ho
        rw [nth_eq] at ho
        split at hs
        · cases hs
        · split at hs
          · cases hs
          · rename_i hp
            exact Keep.trans (Keep.put (List.mem_of_getElem? ho) hp same_keep) (quiet_keep hs)
theorem catch_keep {R : Rg} {need : Option Nat} : ∀ {l : List Nat} {t t' : Tm} {h h' : H} {x x' : Nat}, catchD C R need l t h x = some (t', h', x') → Keep R.ops t t' h h'
  | [], t, t', h, h', x, x', hs => by simp only [catchD, Option.some.injEq, Prod.mk.injEq] at hs; obtain ⟨rfl, rfl, rfl⟩ := hs; exact Keep.refl _ _ _
  | i :: l, t, t', h, h', x, x', hs => by
    simp only [catchD] at hs
    split at hs
    · cases hs
    · split at hs
      · cases hs
      · split at hs
        · cases hs
        · rename_i o ho
          rw [nth_eq] at ho
          have hm := List.mem_of_getElem? ho
          split at hs
          · cases hs
          · split at hs
            · cases hs
            · rename_i hp
              exact Keep.trans (Keep.put hm hp same_keep) (catch_keep hs)
          · split at hs
            · split at hs
              · cases hs
              · split at hs
                · cases hs
                · rename_i hp
                  exact Keep.trans (Keep.put hm hp same_keep) (catch_keep hs)
            · split at hs
              · cases hs
              · split at hs
                · cases hs
                · rename_i hp
                  exact Keep.trans (Keep.put hm hp (alloc_keep h _)) (catch_keep hs)
            · cases hs
theorem chain_keep {R : Rg} {last : Option Nat} {e : Nat} {t t' : Tm} {h h' : H} {x : Nat} (hs : chainD C noCall R last e t h x = some (t', h')) : Keep R.ops t t' h h' := by
  unfold chainD at hs
  split at hs
  · cases hs
  · split at hs
    · cases hs
    · split at hs
      · cases hs
      · rename_i o ho
        rw [nth_eq] at ho
        have hm := List.mem_of_getElem? ho
        split at hs
        · cases hs
        · split at hs
          · rename_i hp; cases hs; exact Keep.put hm hp same_keep
          · cases hs
        · exact act_keep hm hs
theorem tail_keep {R : Rg} {h : H} {last : Option Nat} {late all : List Nat} : ∀ {l : List Nat} {t t' : Tm} {x x' : Nat} {ups : List (Pos × Option NB)}, tailD C R h last late all l t x = some (t', x', ups) → Keep R.ops t t' h h
  | [], t, t', x, x', ups, hs => by simp only [tailD, Option.some.injEq, Prod.mk.injEq] at hs; obtain ⟨rfl, rfl, rfl⟩ := hs; exact Keep.refl _ _ _
  | j :: l, t, t', x, x', ups, hs => by
    simp only [tailD] at hs
    split at hs
    · cases hs
    · split at hs
      · cases hs
      · split at hs
        · cases hs
        · split at hs
          · cases hs
          · rename_i o ho
            rw [nth_eq] at ho
            split at hs
            · cases hs
            · split at hs
              · split at hs
                · split at hs
                  · cases hs
                  · rename_i hp
                    split at hs
                    · cases hs
                    · rename_i hrec
                      split at hs
                      · cases hs
                      · simp only [Option.some.injEq, Prod.mk.injEq] at hs
                        obtain ⟨rfl, rfl, rfl⟩ := hs
                        exact Keep.trans (Keep.put (List.mem_of_getElem? ho) hp same_keep) (tail_keep hrec)
                · cases hs
              · cases hs
theorem stages_keep {R : Rg} : ∀ {l : List Stage} {last : Option Nat} {reads : List Nat} {t t' : Tm} {h h' : H} {x : Nat}, stagesD C noCall R l last reads t h x = some (t', h') → Keep R.ops t t' h h'
  | [], _, _, _, _, _, _, _, hq => by simp only [stagesD, reduceCtorEq] at hq
  | s :: l, last, reads, t, t', h, h', x, hq => by
    simp only [stagesD] at hq
    split at hq
    · cases hq
    · rename_i t1 x1 hqu
      have k1 := quiet_keep hqu
      split at hq
      · cases hq
      · split at hq
        · split at hq
          · cases hq
          · rename_i t2 h2 x2 hca
            have k2 := catch_keep hca
            split at hq
            · cases hq
            · rename_i t3 x3 ups3 hta
              split at hq
              · simp only [Option.some.injEq, Prod.mk.injEq] at hq
                obtain ⟨rfl, rfl⟩ := hq
                obtain ⟨g1, g2, _⟩ := tail_keep hta
                exact (k1.trans k2).trans ⟨g1, g2, upds_keep ups3 h2⟩
              · cases hq
        · split at hq
          · cases hq
          · rename_i t2 h2 x2 hca
            have k2 := catch_keep hca
            split at hq
            · cases hq
            · rename_i t3 h3 hch
              have k3 := chain_keep hch
              split at hq
              · cases hq
              · exact ((k1.trans k2).trans k3).trans (stages_keep hq)
theorem drawn_keep {ops : List Oper} {t t' : Tm} {h h' : H} (hs : drawnN C noCall ops t h = some (t', h')) : Keep ops t t' h h' := by
  unfold drawnN at hs
  split at hs
  · cases hs
  · split at hs
    · cases hs
    · exact stages_keep hs
theorem dstsO_mem : ∀ {l : List Oper} {y : Tmp}, y ∉ dstsOf.dstsO l → ∀ o ∈ l, o.dst ≠ some y
  | [], y, _, o, ho => by simp at ho
  | o0 :: l, y, hy, o, ho => by
    simp only [dstsOf.dstsO] at hy
    split at hy
    · rename_i d hd
      simp only [List.mem_cons, not_or] at hy
      rcases List.mem_cons.1 ho with rfl | ho
      · rw [hd]; intro e; cases e; exact hy.1 rfl
      · exact dstsO_mem hy.2 o ho
    · rename_i hd
      rcases List.mem_cons.1 ho with rfl | ho
      · rw [hd]; intro e; cases e
      · exact dstsO_mem hy o ho
theorem flat_keep : ∀ {l : List (List Oper × Bool)} {t t' : Tm} {h h' : H}, flatN C l t h = some (t', h') → (∀ y, y ∉ dstsOf l → t'.get y = t.get y) ∧ t'.nt = t.nt ∧ ∀ o, h.over = some o → h'.base = h.base ∧ ∃ o', h'.over = some o'
  | [], t, t', h, h', hs => by simp only [flatN, Option.some.injEq, Prod.mk.injEq] at hs; obtain ⟨rfl, rfl⟩ := hs; exact ⟨fun _ _ => rfl, rfl, same_keep⟩
  | (ops, d) :: l, t, t', h, h', hs => by
    simp only [flatN] at hs
    split at hs
    · rename_i t1 h1 hst
      have k2 := flat_keep hs
      have k1 : Keep ops t t1 h h1 := by
        cases d with
        | false => exact seq_keep (fun o ho => ho) hst
        | true => exact drawn_keep hst
      refine ⟨fun y hy => ?_, k2.2.1.trans k1.2.1, fun o ho => ?_⟩
      · simp only [dstsOf] at hy
        rw [appL_eq, List.mem_append, not_or] at hy
        exact (k2.1 y hy.2).trans (k1.1 y (dstsO_mem hy.1))
      · obtain ⟨q1, o1, q2⟩ := k1.2.2 o ho
        obtain ⟨q3, o2, q4⟩ := k2.2.2 o1 q2
        exact ⟨q3.trans q1, o2, q4⟩
    · cases hs

theorem noCall_ok : CallOK C w0 noCall := fun ρ h w g args args' v h' _ _ hc => by simp only [noCall, reduceCtorEq] at hc
theorem flat_append : ∀ {l m : List (List Oper × Bool)} {t t' : Tm} {h h' : H}, flatN C (l ++ m) t h = some (t', h') → ∃ t1 h1, flatN C l t h = some (t1, h1) ∧ flatN C m t1 h1 = some (t', h')
  | [], m, t, t', h, h', hs => ⟨t, h, rfl, hs⟩
  | (ops, d) :: l, m, t, t', h, h', hs => by
    simp only [List.cons_append, flatN] at hs ⊢
    split at hs
    · rename_i t1 h1 hst
      exact flat_append hs
    · cases hs
theorem flat_ok (hm : C.P.follows .mixedOrders = true) : ∀ (c : Code) {l : List (List Oper × Bool)}, flatC c = some l → ∀ {ρ : Rho} {h h' : H} {w : World} {t t' : Tm} {a : Act} (Q : Exit → Act → World → Prop), HR w0 C.ng ρ h w → TR ρ t a.tmps → flatN C l t h = some (t', h') →
    (∀ a' w' ρ', HR w0 C.ng ρ' h' w' → Ext ρ h w ρ' h' w' → TR ρ' t' a'.tmps → a'.defers = a.defers → Q .normal a' w') → c.wp C.P Q a w
  | .skip, l, hc, ρ, h, h', w, t, t', a, Q, r, ht, hs, hQ => by
    simp only [flatC, Option.some.injEq] at hc
    subst hc
    simp only [flatN, Option.some.injEq, Prod.mk.injEq] at hs
    obtain ⟨rfl, rfl⟩ := hs
    exact wp_skip (hQ a w ρ r (Ext.refl _ _ _) ht rfl)
  | .region id ops d, l, hc, ρ, h, h', w, t, t', a, Q, r, ht, hs, hQ => by
    simp only [flatC, Option.some.injEq] at hc
    subst hc
    simp only [flatN] at hs
    split at hs
    · rename_i t1 h1 hst
      simp only [Option.some.injEq, Prod.mk.injEq] at hs
      obtain ⟨rfl, rfl⟩ := hs
      cases d with
      | false =>
        refine wp_region_list ?_
        have := seq_ok (ops := ops.toList) noCall_ok ops.toList Q r ht hst hQ
        simpa using this
      | true => exact drawn_ok noCall_ok hm r ht hst Q hQ
    · cases hs
  | .seq x y, l, hc, ρ, h, h', w, t, t', a, Q, r, ht, hs, hQ => by
    simp only [flatC] at hc
    split at hc
    · rename_i l1 l2 h1 h2
      cases hc
      rw [appL_eq] at hs
      obtain ⟨t1, hh1, s1, s2⟩ := flat_append hs
      refine wp_seq ?_
      refine flat_ok hm x h1 _ r ht s1 fun a' w' ρ' q1 q2 q3 q4 => ?_
      exact flat_ok hm y h2 Q q1 q3 s2 fun a2 w2 ρ2 p1 p2 p3 p4 => hQ a2 w2 ρ2 p1 (q2.trans p2) p3 (p4.trans q4)
    · cases hc
  | .block _ _, _, hc, _, _, _, _, _, _, _, _, _, _, _, _ => by simp only [flatC, reduceCtorEq] at hc
  | .loop _, _, hc, _, _, _, _, _, _, _, _, _, _, _, _ => by simp only [flatC, reduceCtorEq] at hc
  | .cond _ _ _, _, hc, _, _, _, _, _, _, _, _, _, _, _, _ => by simp only [flatC, reduceCtorEq] at hc
  | .scope _, _, hc, _, _, _, _, _, _, _, _, _, _, _, _ => by simp only [flatC, reduceCtorEq] at hc
  | .exit _, _, hc, _, _, _, _, _, _, _, _, _, _, _, _ => by simp only [flatC, reduceCtorEq] at hc
  | .label _, _, hc, _, _, _, _, _, _, _, _, _, _, _, _ => by simp only [flatC, reduceCtorEq] at hc
  | .goto _, _, hc, _, _, _, _, _, _, _, _, _, _, _, _ => by simp only [flatC, reduceCtorEq] at hc
  | .ret, _, hc, _, _, _, _, _, _, _, _, _, _, _, _ => by simp only [flatC, reduceCtorEq] at hc
  | .refuse _, _, hc, _, _, _, _, _, _, _, _, _, _, _, _ => by simp only [flatC, reduceCtorEq] at hc
  | .rangeFunc _ _ _ _, _, hc, _, _, _, _, _, _, _, _, _, _, _, _ => by simp only [flatC, reduceCtorEq] at hc

/-! ### The join -/
theorem HR.forget {ρ ρ0 : Rho} {h h' h0 : H} {w w00 : World} (r : HR w0 C.ng ρ h w) (e : Ext ρ0 h0 w00 ρ h w) (hs : ∀ p b, h'.rd p = some b → h.rd p = some b) (hn : h'.next = h.next) : HR w0 C.ng ρ h' w ∧ Ext ρ0 h0 w00 ρ h' w := by
  refine ⟨⟨r.below, fun p b hp => r.blk p b (hs p b hp), fun p q b b' β D D' h1 h2 => r.inj p q b b' β D D' (hs _ _ h1) (hs _ _ h2), fun p x hp => by rw [hn]; exact r.dom p x hp, r.glob, r.frz⟩, ?_⟩
  exact ⟨e.le, e.fresh, by rw [hn]; exact e.next, e.grow, e.frame, fun β ⟨p, b, D, h1, h2, h3⟩ => e.own β ⟨p, b, D, hs _ _ h1, h2, h3⟩⟩
theorem beqB_eq {x y : NB} (h : beqB x y = true) : x = y := by
  unfold beqB at h
  split at h
  · rw [beqL_eq (fun _ _ => beqV_eq 20) h]
  · split at h
    · rename_i h1
      rw [Nat.eq_of_beq_eq_true h1, Nat.eq_of_beq_eq_true h]
    · cases h
  · cases h
theorem keysOf_none : ∀ {l : List (Pos × Option NB)} {p : Pos}, p ∉ keysOf l → assoc p l = none
  | [], _, _ => rfl
  | (q, x) :: l, p, h => by
    simp only [keysOf, List.mem_cons, not_or] at h
    simp only [assoc]
    split
    · rename_i hb; exact absurd (Pos.beq_iff.1 hb) h.1
    · exact keysOf_none h.2
theorem joinH_get (a b : H) (base : PT NB) : ∀ (l : List Pos) (p : Pos), (p ∈ l ∧ ∀ x, (joinH a b base l).get p = some x → a.rd p = some x ∧ b.rd p = some x) ∨ (p ∉ l ∧ (joinH a b base l).get p = base.get p)
  | [], p => .inr ⟨by simp, rfl⟩
  | q :: l, p => by
    simp only [joinH]
    rw [PT.get_set]
    by_cases h : q = p
    · subst h
      refine .inl ⟨by simp, fun x hx => ?_⟩
      rw [if_pos rfl] at hx
      split at hx
      · rename_i y z hy hz
        split at hx
        · rename_i hb
          cases hx
          rw [hy, hz, ← beqB_eq hb]
          exact ⟨rfl, rfl⟩
        · cases hx
      · cases hx
    · rw [if_neg h]
      rcases joinH_get a b base l p with ⟨h1, h2⟩ | ⟨h1, h2⟩
      · exact .inl ⟨by simp [h1], h2⟩
      · exact .inr ⟨by simp [h1]; exact fun e => h e.symm, h2⟩
theorem joinT_get {a b : Tm} : ∀ {l : List Tmp} {t : Tm}, joinT a b l = some t → t.nt = a.nt ∧ ∀ y, t.get y = .bad ∨ (t.get y = a.get y ∧ (y ∈ l → a.get y = b.get y))
  | [], t, h => by simp only [joinT, Option.some.injEq] at h; subst h; exact ⟨rfl, fun y => .inr ⟨rfl, by simp⟩⟩
  | d :: l, t, h => by
    simp only [joinT] at h
    split at h
    · cases h
    · rename_i t1 h1
      obtain ⟨k1, k2⟩ := joinT_get h1
      split at h
      · rename_i hb
        cases h
        refine ⟨k1, fun y => (k2 y).imp id fun ⟨q1, q2⟩ => ⟨q1, fun hy => ?_⟩⟩
        rcases List.mem_cons.1 hy with rfl | hy
        · exact beqV_eq 20 hb
        · exact q2 hy
      · have g := Tm.get_put h
        refine ⟨(g 0).2.1.trans k1, fun y => ?_⟩
        rw [(g y).1]
        split
        · exact .inl rfl
        · rename_i hne
          refine (k2 y).imp id fun ⟨q1, q2⟩ => ⟨q1, fun hy => ?_⟩
          rcases List.mem_cons.1 hy with e | hy
          · exact absurd e.symm hne
          · exact q2 hy
theorem flip_ok (hm : C.P.follows .mixedOrders = true) {x y : Code} {ρ : Rho} {h h' : H} {w : World} {t t' : Tm} {a : Act} {Q : Exit → Act → World → Prop} (r : HR w0 C.ng ρ h w) (ht : TR ρ t a.tmps) (hs : flipN C x y t h = .norm t' h')
    (hQ : ∀ a' w' ρ', HR w0 C.ng ρ' h' w' → Ext ρ h w ρ' h' w' → TR ρ' t' a'.tmps → a'.defers = a.defers → Q .normal a' w') : x.wp C.P Q a w ∧ y.wp C.P Q a w := by
  unfold flipN at hs
  split at hs
  · rename_i l m hl hmm
    split at hs
    · cases hs
    · rename_i hov
      have e0 : ∀ p, (⟨h.next, h.base, some []⟩ : H).rd p = h.rd p := by
        intro p
        simp only [H.rd, hov, assoc]
      obtain ⟨r0, x0⟩ := r.forget (Ext.refl ρ h w) (h' := ⟨h.next, h.base, some []⟩) (fun p b hp => by rw [← e0]; exact hp) rfl
      split at hs
      · rename_i ta ha tb hb hfa hfb
        split at hs
        · cases hs
        · rename_i hnext
          have hnext := Pos.beq_iff.1 hnext
          split at hs
          · rename_i tj oa ob hj hoa hob
            cases hs
            obtain ⟨ka1, ka2, ka3⟩ := flat_keep hfa
            obtain ⟨kb1, kb2, kb3⟩ := flat_keep hfb
            obtain ⟨ja1, ja2⟩ := joinT_get hj
            have hba := (ka3 [] rfl).1
            have hbb := (kb3 [] rfl).1
            have rd : ∀ p b, (⟨ha.next, joinH ha hb h.base (appL (keysOf oa) (keysOf ob)), none⟩ : H).rd p = some b → ha.rd p = some b ∧ hb.rd p = some b := by
              intro p b hp
              have hp : (joinH ha hb h.base (appL (keysOf oa) (keysOf ob))).get p = some b := hp
              rcases joinH_get ha hb h.base (appL (keysOf oa) (keysOf ob)) p with ⟨_, h2⟩ | ⟨h1, h2⟩
              · exact h2 b hp
              · rw [appL_eq, List.mem_append, not_or] at h1
                rw [h2] at hp
                refine ⟨?_, ?_⟩
                · simp only [H.rd, hoa, keysOf_none h1.1, hba]; exact hp
                · simp only [H.rd, hob, keysOf_none h1.2, hbb]; exact hp
            refine ⟨flat_ok hm x hl Q r0 ht hfa fun a' w' ρ' q1 q2 q3 q4 => ?_, flat_ok hm y hmm Q r0 ht hfb fun a' w' ρ' q1 q2 q3 q4 => ?_⟩
            · obtain ⟨s1, s2⟩ := q1.forget (x0.trans q2) (h' := ⟨ha.next, joinH ha hb h.base (appL (keysOf oa) (keysOf ob)), none⟩) (fun p b hp => (rd p b hp).1) rfl
              refine hQ a' w' ρ' s1 s2 ⟨by rw [q3.nt, ja1], fun i => ?_⟩ q4
              rcases ja2 i with e | ⟨e, _⟩
              · rw [e]; exact .bad _
              · rw [e]; exact q3.at_ i
            · obtain ⟨s1, s2⟩ := q1.forget (x0.trans q2) (h' := ⟨ha.next, joinH ha hb h.base (appL (keysOf oa) (keysOf ob)), none⟩) (fun p b hp => (rd p b hp).2) hnext
              refine hQ a' w' ρ' s1 s2 ⟨by rw [q3.nt, kb2, ja1, ka2], fun i => ?_⟩ q4
              rcases ja2 i with e | ⟨e, e2⟩
              · rw [e]; exact .bad _
              · rw [e]
                by_cases hi : i ∈ appL (dstsOf l) (dstsOf m)
                · rw [e2 hi]; exact q3.at_ i
                · rw [appL_eq, List.mem_append, not_or] at hi
                  rw [ka1 i hi.1, ← kb1 i hi.2]
                  exact q3.at_ i
          · cases hs
      · cases hs
  · cases hs
theorem flip_shape {x y : Code} {t : Tm} {h : H} : flipN C x y t h = .bad ∨ ∃ t' h', flipN C x y t h = .norm t' h' := by
  unfold flipN
  repeat' split
  all_goals first | exact .inl rfl | exact .inr ⟨_, _, rfl⟩
end
end Go.Ne
/- The evaluator's runs against the model's: code, and calls. -/
namespace Go.Ne
open Go Go.RowKit
variable [Sig]
/-- What a run's end comes to. -/
def Ends (C : Ctx) (w0 : World) (ρ : Rho) (h : H) (w : World) (dd : List Deferred) (t' : Tm) (h' : H) (q : Act → World → Prop) : Prop :=
  ∀ a' w' ρ', HR w0 C.ng ρ' h' w' → Ext ρ h w ρ' h' w' → TR ρ' t' a'.tmps → a'.defers = dd → q a' w'
def After (C : Ctx) (w0 : World) (ρ : Rho) (h : H) (w : World) (dd : List Deferred) (Q : Exit → Act → World → Prop) : Res → Prop
  | .bad => False
  | .norm t' h' => Ends C w0 ρ h w dd t' h' (Q .normal)
  | .exit id t' h' => Ends C w0 ρ h w dd t' h' (Q (.exit id))
  | .goto l t' h' => Ends C w0 ρ h w dd t' h' (Q (.goto l))
  | .ret t' h' => Ends C w0 ρ h w dd t' h' (Q .ret)

section
variable {C : Ctx} {w0 : World}
theorem Ends.trans {ρ ρ1 : Rho} {h h1 : H} {w w1 : World} {dd : List Deferred} {t' : Tm} {h' : H} {q : Act → World → Prop} (hq : Ends C w0 ρ h w dd t' h' q) (x : Ext ρ h w ρ1 h1 w1) : Ends C w0 ρ1 h1 w1 dd t' h' q :=
  fun a' w' ρ' r e t d => hq a' w' ρ' r (x.trans e) t d
theorem After.trans {ρ ρ1 : Rho} {h h1 : H} {w w1 : World} {dd : List Deferred} {r : Res} {Q : Exit → Act → World → Prop} (hq : After C w0 ρ h w dd Q r) (x : Ext ρ h w ρ1 h1 w1) : After C w0 ρ1 h1 w1 dd Q r := by
  cases r <;> first | exact hq | exact Ends.trans hq x

/-- A loop that is under way. -/
def LW (P : Program) (c : Code) (Q : Exit → Act → World → Prop) (a : Act) (w : World) : Prop :=
  ∀ (b : Frame) (k : List Item) (cs : List Frame), ∃ e a' w', Q e a' w' ∧ Arrives P (lone (b.at a (.code c :: .inLoop c :: k)) cs w) b k cs e a' w'
theorem LW.wp {P : Program} {c : Code} {Q : Exit → Act → World → Prop} {a : Act} {w : World} (h : LW P c Q a w) : (Code.loop c).wp P Q a w := by
  intro b k cs
  obtain ⟨e, a', w', hq, harr⟩ := h b k cs
  exact ⟨e, a', w', hq, .of_steps (.one step_loop) harr⟩
theorem LW.round {P : Program} {c : Code} {Q : Exit → Act → World → Prop} {a : Act} {w : World} (h : c.wp P (Exit.then (LW P c Q) Q) a w) : LW P c Q a w := by
  intro b k cs
  obtain ⟨e, a₁, w₁, hq, harr⟩ := h b (.inLoop c :: k) cs
  cases e with
  | normal =>
    obtain ⟨e₂, a₂, w₂, hq₂, harr₂⟩ := hq b k cs
    exact ⟨e₂, a₂, w₂, hq₂, .of_steps (Steps.trans harr (.one step_inLoop)) harr₂⟩
  | exit id => exact ⟨_, a₁, w₁, hq, .pass (x := .inLoop c) rfl (fun _ _ => .inl (by simp)) harr⟩
  | goto l => exact ⟨_, a₁, w₁, hq, .pass (x := .inLoop c) rfl (fun _ _ => .inl (by simp)) harr⟩
  | ret => exact ⟨_, a₁, w₁, hq, .pass (x := .inLoop c) rfl (fun _ _ => .inl (by simp)) harr⟩
  | panic ch => exact ⟨_, a₁, w₁, hq, .pass (x := .inLoop c) rfl (fun _ _ => .inl (by simp)) harr⟩
  | outgrown => exact ⟨_, a₁, w₁, hq, .pass (x := .inLoop c) rfl (fun _ _ => .inl (by simp)) harr⟩
/-- A scope that is under way. -/
def SW (P : Program) (c x : Code) (Q : Exit → Act → World → Prop) (a : Act) (w : World) : Prop :=
  ∀ (b : Frame) (k : List Item) (cs : List Frame), ∃ e a' w', Q e a' w' ∧ Arrives P (lone (b.at a (.code x :: .inScope c :: k)) cs w) b k cs e a' w'
theorem SW.wp {P : Program} {c : Code} {Q : Exit → Act → World → Prop} {a : Act} {w : World} (h : SW P c c Q a w) : (Code.scope c).wp P Q a w := by
  intro b k cs
  obtain ⟨e, a', w', hq, harr⟩ := h b k cs
  exact ⟨e, a', w', hq, .of_steps (.one step_scope) harr⟩
def scopeQ (P : Program) (c : Code) (Q : Exit → Act → World → Prop) : Exit → Act → World → Prop
  | .goto l, a, w => match findLabel c l with
    | some rest => SW P c rest Q a w
    | none => Q (.goto l) a w
  | e, a, w => Q e a w
theorem SW.part {P : Program} {c x : Code} {Q : Exit → Act → World → Prop} {a : Act} {w : World} (h : x.wp P (scopeQ P c Q) a w) : SW P c x Q a w := by
  intro b k cs
  obtain ⟨e, a₁, w₁, hq, harr⟩ := h b (.inScope c :: k) cs
  cases e with
  | normal => exact ⟨.normal, a₁, w₁, hq, Steps.trans harr (.one step_inScope)⟩
  | exit id => exact ⟨.exit id, a₁, w₁, hq, fun k' hk => harr k' (by simp [exitTo, hk])⟩
  | goto l' =>
    simp only [scopeQ] at hq
    split at hq
    · rename_i rest hf
      obtain ⟨e₂, a₂, w₂, hq₂, harr₂⟩ := hq b k cs
      exact ⟨e₂, a₂, w₂, hq₂, .of_steps (harr _ (by simp [gotoIn, hf])) harr₂⟩
    · rename_i hf
      exact ⟨.goto l', a₁, w₁, hq, fun k' hk => harr k' (by simp [gotoIn, hf, hk])⟩
  | ret => exact ⟨_, a₁, w₁, hq, harr⟩
  | panic ch => exact ⟨_, a₁, w₁, hq, harr⟩
  | outgrown => exact ⟨_, a₁, w₁, hq, harr⟩

/-- What must hold of the surroundings. -/
structure CtxOK (C : Ctx) (w0 : World) : Prop where
  mixed : C.P.follows .mixedOrders = true
  name : ∀ (g : FuncId) (fn : Func) (c : Code), C.P.funcs[g]? = some fn → fn.body = some c → (fn.name == "runtime.NumGoroutine") = false
  ext : ∀ (g : FuncId) (fn : Func) (args : List NV) (v : NV), C.P.funcs[g]? = some fn → fn.body = none → C.ext g args = some v → ∀ (ρ : Rho) (h : H) (w : World) (args' : List Value), HR w0 C.ng ρ h w → VRL ρ args args' → ∃ v', (callFunc g args'.toArray).run C.P w = .ok (.value v') w ∧ VR ρ v v'
  orc : ∀ (g : FuncId) (args : List NV) (v : NV), C.orc g args = some v → ∀ (ρ : Rho) (h : H) (w : World) (args' : List Value), HR w0 C.ng ρ h w → VRL ρ args args' →
    (callFunc g args'.toArray).run C.P w = .ok (.enter g args'.toArray) w ∧ Calls C.P g args'.toArray w (fun e w' => ∃ v' ρ', e = .returned v' ∧ HR w0 C.ng ρ' h w' ∧ Ext ρ h w ρ' h w' ∧ VR ρ' v v')

def RunOK (C : Ctx) (w0 : World) (f : Nat) : Prop := ∀ (c : Code) (ρ : Rho) (h : H) (w : World) (t : Tm) (a : Act) (Q : Exit → Act → World → Prop), HR w0 C.ng ρ h w → TR ρ t a.tmps → After C w0 ρ h w a.defers Q (run C f c t h) →
  c.wp C.P Q a w ∧ ∀ b, c = .loop b → LW C.P b Q a w

theorem scope_ok : ∀ (f1 : Nat), (∀ f', f' < f1 → RunOK C w0 f') → ∀ (b x : Code) (r : Res) (ρ : Rho) (h : H) (w : World) (a : Act) (Q : Exit → Act → World → Prop), (∀ Q', After C w0 ρ h w a.defers Q' r → x.wp C.P Q' a w) → After C w0 ρ h w a.defers Q (scopeN C f1 b r) → SW C.P b x Q a w
  | 0, _, b, x, r, ρ, h, w, a, Q, hx, hA => by simp only [scopeN, After] at hA
  | f1 + 1, hrun, b, x, r, ρ, h, w, a, Q, hx, hA => by
    refine SW.part (hx _ ?_)
    simp only [scopeN] at hA
    cases r with
    | bad => exact hA
    | norm t' h' => exact hA
    | exit id t' h' => exact hA
    | ret t' h' => exact hA
    | goto l t' h' =>
      simp only at hA
      cases hf : findLabel b l with
      | none =>
        rw [hf] at hA
        intro a' w' ρ' q1 q2 q3 q4
        simp only [scopeQ, hf]
        exact hA a' w' ρ' q1 q2 q3 q4
      | some rest =>
        rw [hf] at hA
        simp only at hA
        intro a' w' ρ' q1 q2 q3 q4
        simp only [scopeQ, hf]
        refine scope_ok f1 (fun f' hf' => hrun f' (by omega)) b rest _ ρ' h' w' a' Q (fun Q' hQ' => (hrun f1 (by omega) rest ρ' h' w' t' a' Q' q1 q3 hQ').1) ?_
        rw [q4]
        exact hA.trans q2

theorem args0_get : ∀ (l : List NV) (k : Nat) (m : PT NV) (i : Nat), (args0 l k m).get (key i) = if k ≤ i ∧ i < k + l.length then l[i - k]? else m.get (key i)
  | [], k, m, i => by simp only [args0, List.length_nil]; rw [if_neg (by omega)]
  | v :: l, k, m, i => by
    simp only [args0]
    rw [args0_get l (Nat.succ k)]
    by_cases h1 : Nat.succ k ≤ i ∧ i < Nat.succ k + l.length
    · rw [if_pos h1, if_pos (by simp; omega)]
      have : i - k = (i - Nat.succ k) + 1 := by omega
      rw [this]; simp
    · rw [if_neg h1, PT.get_set]
      by_cases h2 : k = i
      · subst h2
        rw [if_pos rfl, if_pos (by simp)]
        simp
      · rw [if_neg (fun e => h2 (key_inj e)), if_neg (by simp; omega)]
theorem mapM_run {P : Program} {α : Type} (F : α → Sem Value) {w : World} {ρ : Rho} : ∀ (l : List α) (vs : List NV), (∀ (i : Nat) (x : α) (v : NV), l[i]? = some x → vs[i]? = some v → ∃ v', (F x).run P w = .ok v' w ∧ VR ρ v v') → l.length = vs.length →
    ∃ vs', (l.mapM F).run P w = .ok vs' w ∧ VRL ρ vs vs'
  | [], [], _, _ => ⟨[], by simp, .nil⟩
  | [], _ :: _, _, h => by simp at h
  | _ :: _, [], _, h => by simp at h
  | x :: l, v :: vs, hF, hl => by
    obtain ⟨v', e1, r1⟩ := hF 0 x v rfl rfl
    obtain ⟨vs', e2, r2⟩ := mapM_run F l vs (fun i x v h1 h2 => hF (i + 1) x v (by simpa using h1) (by simpa using h2)) (by simpa using hl)
    refine ⟨v' :: vs', ?_, .cons _ _ _ _ r1 r2⟩
    rw [List.mapM_cons]
    simp [e1, e2]
def resF (tmps : Array Value) : ResultVar → Sem Value
  | .tmp t => pure (tmps.getD t undef)
  | .cell b t => do loadVar t (← asAddr (tmps.getD b undef))
theorem results_eq (fn : Func) (tmps : Array Value) : results fn tmps = (do let vs ← fn.results.mapM (resF tmps); pure (if h : vs.size = 1 then vs[0] else .tuple vs)) := by
  unfold results
  have : (resF tmps) = (fun | .tmp t => pure (tmps.getD t undef) | .cell a t => do loadVar t (← asAddr (tmps.getD a undef))) := by
    funext x; cases x <;> rfl
  rw [this]
  rfl
theorem res_ok {ρ : Rho} {h : H} {w : World} {t : Tm} {a : Act} (r : HR w0 C.ng ρ h w) (ht : TR ρ t a.tmps) {fn : Func} {l : List NV} (hl : resN C.P t h fn.results.toList = some l) : ∃ v', (results fn a.tmps).run C.P w = .ok v' w ∧ VR ρ (tupN l) v' := by
  have key : ∀ (rs : List ResultVar) (l : List NV), resN C.P t h rs = some l → rs.length = l.length ∧ ∀ (i : Nat) (x : ResultVar) (v : NV), rs[i]? = some x → l[i]? = some v →
      ∃ v', (resF a.tmps x).run C.P w = .ok v' w ∧ VR ρ v v' := by
    intro rs
    induction rs with
    | nil => intro l hl; simp only [resN, Option.some.injEq] at hl; subst hl; simp
    | cons x rs ih =>
      intro l hl
      simp only [resN] at hl
      split at hl
      · rename_i v m hv hm
        cases hl
        obtain ⟨i1, i2⟩ := ih m hm
        refine ⟨by simp [i1], fun i y u hy hu => ?_⟩
        cases i with
        | succ i => exact i2 i y u (by simpa using hy) (by simpa using hu)
        | zero =>
          simp at hy hu
          subst hy; subst hu
          cases x with
          | tmp i =>
            simp only [Option.some.injEq] at hv
            subst hv
            exact ⟨_, rfl, ht.at_ i⟩
          | cell b u =>
            simp only at hv
            split at hv
            · rename_i p off hp
              have hb := ht.at_ b
              rw [hp] at hb
              obtain ⟨β, D, e', hρ⟩ := hb.ptr_inv
              split at hv
              · rename_i ti hti
                obtain ⟨v', e1, e2⟩ := load_ok (P := C.P) r hti hv hρ
                exact ⟨v', by simp [resF, e', asAddr, e1], e2⟩
              · cases hv
            · cases hv
      · cases hl
  obtain ⟨k1, k2⟩ := key _ _ hl
  obtain ⟨vs', e1, e2⟩ := mapM_run (P := C.P) (resF a.tmps) (w := w) (ρ := ρ) fn.results.toList l (fun i x v h1 h2 => k2 i x v h1 h2) k1
  have hlen := e2.length
  refine ⟨if h : vs'.toArray.size = 1 then vs'.toArray[0] else .tuple vs'.toArray, ?_, ?_⟩
  · rw [results_eq, Array.mapM_eq_mapM_toList]
    simp only [Sem.run_bind, map_eq_pure_bind, e1, Result.andThen_ok, Sem.run_pure]
  · match l, vs', e2 with
    | [], [], _ => simp only [tupN]; exact .tuple _ _ .nil
    | [v], [v'], .cons _ _ _ _ hv _ => simpa [tupN] using hv
    | v :: u :: l, v' :: u' :: l', h2 =>
      simp only [tupN]
      rw [dif_neg (by simp)]
      exact .tuple _ _ h2

theorem call_ok (K : CtxOK C w0) : ∀ (f : Nat), (∀ f', f' < f → RunOK C w0 f') → CallOK C w0 (callN C f)
  | 0, _ => fun ρ h w g args args' v h' r hv hc => by simp only [callN, reduceCtorEq] at hc
  | f + 1, hrun => fun ρ h w g args args' v h' r hv hc => by
    simp only [callN] at hc
    split at hc
    · rename_i v0 ho
      cases hc
      exact .inl (K.orc g args _ ho ρ h w args' r hv)
    · split at hc
      · cases hc
      · rename_i fn hfn
        split at hc
        · rename_i hb
          split at hc
          · rename_i v0 he
            cases hc
            obtain ⟨v', e1, e2⟩ := K.ext g fn args _ hfn hb he ρ h w args' r hv
            exact .inr ⟨v', e1, rfl, e2⟩
          · cases hc
        · rename_i c hb
          split at hc
          · cases hc
          · rename_i hle
            have hle : args.length ≤ fn.ntmps := by rw [← lenL_eq]; exact Nat.le_of_ble_eq_true hle
            refine .inl ⟨Go.MuLone.run_callFunc_enter hfn (K.name g fn c hfn hb) hb _ _, ?_⟩
            refine calls_of_wp hfn hb ?_
            have hlen := hv.length
            have ht : TR ρ ⟨fn.ntmps, args0 args 0 .e⟩ (args'.toArray ++ Array.replicate (fn.ntmps - args'.toArray.size) undef) := by
              refine ⟨by simp; omega, fun i => ?_⟩
              unfold Tm.get
              rw [args0_get]
              by_cases hi : i < args.length
              · rw [if_pos (by omega)]
                have h1 : args[i - 0]? = some args[i] := by simp [hi]
                rw [h1]
                simp only
                rw [Array.getD_eq_getD_getElem?, Array.getElem?_append_left (by simp; omega)]
                obtain ⟨u, e1, e2⟩ := hv.get (i := i) (v := args[i]) (by simp [hi])
                simp only [List.getElem?_toArray, e1, Option.getD_some]
                exact e2
              · rw [if_neg (by omega), PT.get_e]
                exact .bad _
            have fin : ∀ t1 h1 l, resN C.P t1 h1 fn.results.toList = some l → (∀ (a' : Act) (w' : World) (ρ' : Rho), HR w0 C.ng ρ' h1 w' → Ext ρ h w ρ' h1 w' → TR ρ' t1 a'.tmps → a'.defers = [] →
                a'.defers = [] ∧ ∃ v, (results fn a'.tmps).run C.P w' = .ok v w' ∧ ∃ v' ρ', Ending.returned v = .returned v' ∧ HR w0 C.ng ρ' h1 w' ∧ Ext ρ h w ρ' h1 w' ∧ VR ρ' (tupN l) v') := by
              intro t1 h1 l hl a' w' ρ' q1 q2 q3 q4
              obtain ⟨v', e1, e2⟩ := res_ok q1 q3 hl
              exact ⟨q4, v', e1, v', ρ', rfl, q1, q2, e2⟩
            split at hc
            · rename_i t1 h1 hr
              split at hc
              · rename_i l hl
                cases hc
                exact (hrun f (by omega) c ρ h w _ { tmps := args'.toArray ++ Array.replicate (fn.ntmps - args'.toArray.size) undef, defers := [] } _ r ht (by rw [hr]; exact fin t1 _ l hl)).1
              · cases hc
            · rename_i t1 h1 hr
              split at hc
              · rename_i l hl
                cases hc
                exact (hrun f (by omega) c ρ h w _ { tmps := args'.toArray ++ Array.replicate (fn.ntmps - args'.toArray.size) undef, defers := [] } _ r ht (by rw [hr]; exact fin t1 _ l hl)).1
              · cases hc
            · cases hc

theorem run_ok (K : CtxOK C w0) : ∀ (f : Nat), RunOK C w0 f := by
  intro f
  induction f using Nat.strongRecOn with
  | _ f ih =>
    cases f with
    | zero => intro c ρ h w t a Q r ht hA; simp only [run, After] at hA
    | succ f =>
      have IH := ih f (by omega)
      have hcall : CallOK C w0 (callN C f) := call_ok K f fun f' hf' => ih f' (by omega)
      intro c ρ h w t a Q r ht hA
      have noloop : c.wp C.P Q a w → (∀ b, c ≠ .loop b) → c.wp C.P Q a w ∧ ∀ b, c = .loop b → LW C.P b Q a w := fun h1 h2 => ⟨h1, fun b hb => absurd hb (h2 b)⟩
      cases c with
      | skip => simp only [run] at hA; exact noloop (wp_skip (hA a w ρ r (Ext.refl _ _ _) ht rfl)) (fun b hb => by cases hb)
      | label l => simp only [run] at hA; exact noloop (wp_label (hA a w ρ r (Ext.refl _ _ _) ht rfl)) (fun b hb => by cases hb)
      | exit id => simp only [run] at hA; exact noloop (wp_exit (hA a w ρ r (Ext.refl _ _ _) ht rfl)) (fun b hb => by cases hb)
      | ret => simp only [run] at hA; exact noloop (wp_ret (hA a w ρ r (Ext.refl _ _ _) ht rfl)) (fun b hb => by cases hb)
      | goto l => simp only [run] at hA; exact noloop (wp_goto (hA a w ρ r (Ext.refl _ _ _) ht rfl)) (fun b hb => by cases hb)
      | region id ops draw =>
        simp only [run] at hA
        refine noloop ?_ (fun b hb => by cases hb)
        rcases region_shape (C := C) (call := callN C f) (ops := ops.toList) (draw := draw) (t := t) (h := h) with hr | ⟨t', h', hr⟩
        · rw [hr] at hA; exact hA.elim
        · rw [hr] at hA
          exact region_ok hcall K.mixed r ht hr hA
      | seq x y =>
        simp only [run] at hA
        refine noloop (wp_seq ?_) (fun b hb => by cases hb)
        refine (IH x ρ h w t a _ r ht ?_).1
        cases hx : run C f x t h with
        | bad => rw [hx] at hA; exact hA
        | norm t' h' =>
          rw [hx] at hA
          simp only at hA
          intro a' w' ρ' q1 q2 q3 q4
          refine (IH y ρ' h' w' t' a' Q q1 q3 ?_).1
          rw [q4]
          exact hA.trans q2
        | exit id t' h' => rw [hx] at hA; exact hA
        | goto l t' h' => rw [hx] at hA; exact hA
        | ret t' h' => rw [hx] at hA; exact hA
      | cond x y z =>
        simp only [run] at hA
        refine noloop ?_ (fun b hb => by cases hb)
        have hev := evT_ok r ht x
        split at hA
        · rename_i hx
          rw [hx] at hev
          exact wp_cond_true hev.bool_inv (IH y ρ h w t a Q r ht hA).1
        · rename_i hx
          rw [hx] at hev
          exact wp_cond_false hev.bool_inv (IH z ρ h w t a Q r ht hA).1
        · rename_i hx
          rw [hx] at hev
          obtain ⟨bb, hbb⟩ : ∃ bb, a.eval x = .bool bb := by
            generalize a.eval x = u at hev
            cases hev
            exact ⟨_, rfl⟩
          rcases flip_shape (C := C) (x := y) (y := z) (t := t) (h := h) with hr | ⟨t', h', hr⟩
          · rw [hr] at hA; exact hA.elim
          · rw [hr] at hA
            obtain ⟨k1, k2⟩ := flip_ok K.mixed r ht hr hA
            cases bb with
            | true => exact wp_cond_true hbb k1
            | false => exact wp_cond_false hbb k2
        · exact hA.elim
      | block id b =>
        simp only [run] at hA
        refine noloop (wp_block ?_) (fun b hb => by cases hb)
        refine (IH b ρ h w t a _ r ht ?_).1
        cases hx : run C f b t h with
        | bad => rw [hx] at hA; exact hA
        | norm t' h' => rw [hx] at hA; exact hA
        | exit i t' h' =>
          rw [hx] at hA
          simp only at hA
          intro a' w' ρ' q1 q2 q3 q4
          simp only [Exit.inBlock]
          split at hA
          · rename_i he
            rw [if_pos (Nat.eq_of_beq_eq_true he)]
            exact hA a' w' ρ' q1 q2 q3 q4
          · rename_i he
            rw [if_neg (fun e => by subst e; simp at he)]
            exact hA a' w' ρ' q1 q2 q3 q4
        | goto l t' h' => rw [hx] at hA; exact hA
        | ret t' h' => rw [hx] at hA; exact hA
      | loop b =>
        simp only [run] at hA
        have hL : LW C.P b Q a w := by
          refine LW.round ?_
          refine (IH b ρ h w t a _ r ht ?_).1
          cases hx : run C f b t h with
          | bad => rw [hx] at hA; exact hA
          | norm t' h' =>
            rw [hx] at hA
            simp only at hA
            intro a' w' ρ' q1 q2 q3 q4
            refine (IH (.loop b) ρ' h' w' t' a' Q q1 q3 ?_).2 b rfl
            rw [q4]
            exact hA.trans q2
          | exit id t' h' => rw [hx] at hA; exact hA
          | goto l t' h' => rw [hx] at hA; exact hA
          | ret t' h' => rw [hx] at hA; exact hA
        exact ⟨hL.wp, fun b' hb => by cases hb; exact hL⟩
      | scope b =>
        simp only [run] at hA
        refine noloop (SW.wp ?_) (fun b hb => by cases hb)
        exact scope_ok f (fun f' hf' => ih f' (by omega)) b b _ ρ h w a Q (fun Q' hQ' => (IH b ρ h w t a Q' r ht hQ').1) hA
      | _ => simp only [run, After] at hA
end
end Go.Ne
