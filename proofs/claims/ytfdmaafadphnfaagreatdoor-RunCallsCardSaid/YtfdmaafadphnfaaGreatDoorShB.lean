/- The staged interpreter's operations are the evaluator's. -/
import Derived.Test.YtfdmaafadphnfaaGreatDoorShA
import Derived.Conc.MuLone
set_option linter.unusedSectionVars false
namespace Go.Ne
open Go
variable [Sig]
theorem bK_some {o : Option NV} {k : NV → R} {r : NV × H} (h : bK o k = some r) : ∃ v, o = some v ∧ k v = some r := optRec_some h
theorem mK_some {o : R} {k : NV → H → R} {r : NV × H} (h : mK o k = some r) : ∃ v h', o = some (v, h') ∧ k v h' = some r := by
  obtain ⟨⟨v, h'⟩, h1, h2⟩ := optRec_some h
  exact ⟨v, h', h1, h2⟩

/-- What an operation comes to. -/
def actV (C : Ctx) (call : CallF) (ev : Operand → NV) (op : Op) (h : H) : R := match op with
  | .call ⟨.value f, args, _⟩ => match ev f with
    | .func (.func g) first cap => call g (appL first (appL (mapL ev args.toList) cap)) h
    | _ => none
  | op => effM (effOf C.P h.rd ev op) h
theorem effM_app {e : Option Eff} {h : H} {v : NV} {h' : H} (he : effM e h = some (v, h')) : ∃ e', e = some e' ∧ (e'.app h).1 = h' ∧ (e'.app h).2 = v := by
  unfold effM at he
  split at he
  · cases he
  · rename_i e'
    refine ⟨e', rfl, ?_⟩
    unfold Eff.app
    split at he
    · rename_i hn; cases he; rw [hn]; exact ⟨rfl, rfl⟩
    · rename_i b hn; cases he; rw [hn]; exact ⟨rfl, rfl⟩
theorem applyE_of {t t' : Tm} {dst : Option Tmp} {h : H} {e : Eff} (hp : t.put dst (e.app h).2 = some t') : applyE t dst h e = some (t', (e.app h).1) := by
  unfold applyE
  unfold Eff.app at hp ⊢
  split
  · rename_i hn; rw [hn] at hp; simp only at hp; rw [hp, hn]
  · rename_i b hn; rw [hn] at hp; simp only at hp; rw [hp, hn]
theorem actN_of {C : Ctx} {call : CallF} {ev : Operand → NV} {o : Oper} {t t' : Tm} {h h' : H} {v : NV} (ha : actV C call ev o.op h = some (v, h')) (hp : t.put o.dst v = some t') : actN C call ev o t h = some (t', h') := by
  unfold actN
  unfold actV at ha
  split at ha
  · rename_i f args ats hop
    rw [hop]
    simp only
    split at ha
    · rename_i g first cap he
      rw [he]
      simp only
      rw [ha]
      simp only [hp]
    · cases ha
  · rename_i hn
    obtain ⟨e, h1, h2, h3⟩ := effM_app ha
    subst h3
    subst h2
    split
    · rename_i f args ats hop
      exact absurd hop (hn f args ats)
    · rw [h1]
      simp only
      exact applyE_of hp

section
variable {C : Ctx} {call : CallF} {ev : Operand → NV} {h : H} {op : Op}
theorem actV_pure (hn : actV C call ev op h = effM (effOf C.P h.rd ev op) h) (hc : cls C.P op = .pure) {v : NV} (hp : pureN C.P ev op = some v) : actV C call ev op h = some (v, h) := by
  rw [hn]; unfold effOf; rw [hc]; simp only [hp]; rfl
theorem actV_read (hn : actV C call ev op h = effM (effOf C.P h.rd ev op) h) (hc : cls C.P op = .read) {v : NV} (hp : readN C.P h.rd ev op = some v) : actV C call ev op h = some (v, h) := by
  rw [hn]; unfold effOf; rw [hc]; simp only [hp]; rfl
theorem actV_alloc (hn : actV C call ev op h = effM (effOf C.P h.rd ev op) h) (hc : cls C.P op = .alloc) {b : NB} {f : Pos → NV} (hp : allocN C.P ev op = some (b, f)) : actV C call ev op h = some (f h.next, h.alloc b) := by
  rw [hn]; unfold effOf; rw [hc]; simp only [hp]; rfl
theorem actV_chain (hn : actV C call ev op h = effM (effOf C.P h.rd ev op) h) (hc : cls C.P op = .chain) {r : NV × H} (hp : effM (chainN C.P h.rd ev op) h = some r) : actV C call ev op h = some r := by
  rw [hn]; unfold effOf; rw [hc]; exact hp
end
end Go.Ne
/- One operation: the staged interpreter's step is the evaluator's. -/
namespace Go.Ne
open Go
variable [Sig]
section
variable {P : Program} {ev : Operand → NV} {h : H}

theorem pick_p {c a b : Operand} {v : NV} (hv : pickO (ev c) (ev a) (ev b) = some v) : pureN P ev (.pick c a b) = some v := by
  obtain ⟨x, he, h⟩ := onBool_some hv
  simp only [pureN, he]
  cases x <;> exact h
theorem nilO_eq (v : NV) : nilO v = match v with
  | .ptr p off => some (.ptr p off)
  | .func (.func f) a b => some (.func (.func f) a b)
  | .map p => some (.map p)
  | .slice p a b c => some (.slice p a b c)
  | .fptr k o l => some (.fptr k o l)
  | _ => none := by
  cases v <;> first | rfl | (rename_i fn a b; cases fn <;> rfl)
theorem nil_p {x : Operand} {v : NV} (hv : nilO (ev x) = some v) : pureN P ev (.nilCheck x) = some v := by
  simp only [pureN]; rw [nilO_eq] at hv; exact hv
theorem un_p {op : UnOp} {t : TypeId} {x : Operand} {v : NV} (hv : unO op (ev x) = some v) : pureN P ev (.unOp op t x) = some v := by
  simp only [pureN]; unfold unO at hv; exact hv
theorem not_p {t : TypeId} {x : Operand} {v : NV} (hv : notO (ev x) = some v) : pureN P ev (.unOp .not t x) = some v := by
  obtain ⟨b, he, h⟩ := onBool_some hv
  rw [notB_eq] at h
  simp only [pureN, he]
  exact h
theorem fAddr_p {s : TypeId} {x : Operand} {f : Nat} {fs : List FI} {fi : FI} {v : NV} (h1 : kd P s = .struct fs) (h2 : nth fs f = some fi) (h3 : fi.size = 0 → False) (hv : fAddr fi.off (ev x) = some v) : pureN P ev (.fieldAddr s x f) = some v := by
  rcases onPtr2_some hv with ⟨p, o, he, h⟩ | ⟨k, o, l, he, h⟩ <;>
  · simp only [pureN, h1, h2, he]
    exact h
theorem fld_p {s : TypeId} {x : Operand} {f : Nat} {fs : List FI} {fi : FI} {v : NV} (h1 : kd P s = .struct fs) (h2 : nth fs f = some fi) (hv : fldO fi.agg fi.size fi.off (ev x) = some v) : pureN P ev (.field s x f) = some v := by
  simp only [pureN, h1, h2]; unfold fldO at hv
  split at hv
  · rename_i l he; rw [he]; exact hv
  · cases hv
theorem ixS_p {t e : TypeId} {x i : Operand} {v : NV} (h1 : kd P t = .slice e) (hv : ixS (P.cellsOf e) (ev x) (ev i) = some v) : pureN P ev (.indexAddr t x i) = some v := by
  obtain ⟨k, n, e1, h⟩ := onInt_some hv
  rcases onSlice2_some h with ⟨p, a, b, c, e2, h⟩ | ⟨q, a, l, e2, h⟩ <;>
  · obtain ⟨m, e3, h⟩ := idxF_some h
    simp only [pureN, h1, e1, e2, e3]
    exact h
theorem ixA_p {t e : TypeId} {len : Nat} {x i : Operand} {v : NV} (h1 : kd P t = .array len e) (hv : ixA len (P.cellsOf e) (ev x) (ev i) = some v) : pureN P ev (.indexAddr t x i) = some v := by
  simp only [pureN, h1]; unfold ixA at hv
  split at hv
  · rename_i k n he; rw [he]; exact hv
  · cases hv
theorem ixStr_p {t : TypeId} {x i : Operand} {v : NV} (h1 : kd P t = .str) (hv : ixStr (ev x) (ev i) = some v) : pureN P ev (.index t x i) = some v := by
  obtain ⟨k, n, e1, h⟩ := onInt_some hv
  obtain ⟨a, b, e2, h⟩ := onStr_some h
  obtain ⟨m, e3, h⟩ := idxF_some h
  rw [mkF_eq] at h
  simp only [pureN, h1, e1, e2, e3]
  exact h
theorem ixArr_p {t e : TypeId} {len : Nat} {x i : Operand} {v : NV} (h1 : kd P t = .array len e) (hv : ixArr len (isAggD (P.underlying e)) (P.cellsOf e) (ev x) (ev i) = some v) : pureN P ev (.index t x i) = some v := by
  simp only [pureN, h1]; unfold ixArr at hv
  split at hv
  · rename_i k n he; rw [he]; exact hv
  · cases hv
theorem ext_p {x : Operand} {i : Nat} {v : NV} (hv : extO i (ev x) = some v) : pureN P ev (.extract x i) = some v := by
  obtain ⟨l, e1, h⟩ := onTuple_some hv
  rw [nthF_eq] at h
  simp only [pureN, e1]
  exact h
theorem ikEq_self (k : IntKind) : ikEq k k = true := by cases k <;> rfl
theorem binP_int {op : BinOp} {k : IntKind} {a b : Int} {v : NV} (hs : isShl op = none) (hv : intOp op k a b = some v) : binP op (.int k a) (.int k b) = some v := by
  unfold binP; rw [hs]; simp only [ikEq_self]; exact hv
theorem binP_sym {op : BinOp} {x y v : NV} (h : symO op x y = some v) (hn : ∀ k a b, x = .int k a → y = .int k b → False) : binP op x y = some v := by
  unfold binP
  split
  · rename_i k a j b
    unfold symO at h
    simp only [rngN] at h
    split at h
    · rename_i hk
      obtain rfl := ikEq_iff.1 hk
      exact (hn _ _ _ rfl rfl).elim
    · cases h
  · unfold symO at h; simp only [rngN, reduceCtorEq] at h
  · exact h
/-- An operation of two numbers. -/
theorem i2_p {op : BinOp} {f : IntKind → Int → Int → NV} {x y v : NV} (hs : isShl op = none) (hf : ∀ k a b, intOp op k a b = some (f k a b)) (hv : onTwo x y (symO op x y) (fun k a b => some (f k a b)) = some v) : binP op x y = some v := by
  rcases onTwo_or hv with ⟨k, a, b, rfl, rfl, h⟩ | ⟨h, hn⟩
  · exact binP_int hs ((hf k a b).trans h)
  · exact binP_sym h hn
theorem add_p {x y v : NV} (hv : addI x y = some v) : binP .add x y = some v := i2_p rfl (fun k a b => by rw [addZ_eq]; rfl) hv
theorem sub_p {x y v : NV} (hv : subI x y = some v) : binP .sub x y = some v := i2_p rfl (fun k a b => by rw [subZ_eq]; rfl) hv
theorem eq_p {x y v : NV} (hv : eqI x y = some v) : binP .eql x y = some v := i2_p rfl (fun k a b => by rw [eqZ_eq]; rfl) hv
theorem ne_p {x y v : NV} (hv : neI x y = some v) : binP .neq x y = some v := i2_p rfl (fun k a b => by rw [eqZ_eq, notB_eq]; rfl) hv
theorem lt_p {x y v : NV} (hv : ltI x y = some v) : binP .lss x y = some v := i2_p rfl (fun k a b => by rw [leZ_eq, notB_eq]; rfl) hv
theorem le_p {x y v : NV} (hv : leI x y = some v) : binP .leq x y = some v := i2_p rfl (fun k a b => by rw [leZ_eq]; rfl) hv
theorem gt_p {x y v : NV} (hv : gtI x y = some v) : binP .gtr x y = some v := i2_p rfl (fun k a b => by rw [leZ_eq, notB_eq]; rfl) hv
theorem ge_p {x y v : NV} (hv : geI x y = some v) : binP .geq x y = some v := i2_p rfl (fun k a b => by rw [leZ_eq]; rfl) hv
theorem bin_ok {C : Ctx} {call : CallF} {op : BinOp} {t t2 : TypeId} {x y : Operand} {v : NV} (hv : binC C.P op t h (ev x) (ev y) = some v) : actV C call ev (.binOp op t x y t2) h = some (v, h) := by
  have pl : cls C.P (.binOp op t x y t2) = .pure → binP op (ev x) (ev y) = some v → actV C call ev (.binOp op t x y t2) h = some (v, h) := fun hc hp => actV_pure rfl hc (by simp only [pureN]; exact hp)
  have dp : cls C.P (.binOp op t x y t2) = .read → binE C.P h.rd op t (ev x) (ev y) = some v → actV C call ev (.binOp op t x y t2) h = some (v, h) := fun hc hp => actV_read rfl hc (by simp only [readN]; exact hp)
  cases op with
  | add =>
    simp only [binC] at hv
    split at hv
    · exact pl rfl (add_p hv)
    · exact pl rfl hv
  | sub => exact pl rfl (sub_p hv)
  | eql =>
    simp only [binC] at hv
    split at hv
    · rename_i k hk; exact pl (by simp only [cls, hk, eqK]) (eq_p hv)
    · rename_i hk; exact pl (by simp only [cls, hk, eqK]) hv
    · rename_i h1 h2
      refine dp ?_ hv
      simp only [cls]
      cases hk : kd C.P t <;> first | rfl | exact absurd hk (h1 _) | exact absurd hk h2
  | neq =>
    simp only [binC] at hv
    split at hv
    · rename_i k hk; exact pl (by simp only [cls, hk, eqK]) (ne_p hv)
    · rename_i hk; exact pl (by simp only [cls, hk, eqK]) hv
    · rename_i h1 h2
      refine dp ?_ hv
      simp only [cls]
      cases hk : kd C.P t <;> first | rfl | exact absurd hk (h1 _) | exact absurd hk h2
  | lss =>
    simp only [binC] at hv
    split at hv
    · exact pl rfl (lt_p hv)
    · exact pl rfl hv
  | leq =>
    simp only [binC] at hv
    split at hv
    · exact pl rfl (le_p hv)
    · exact pl rfl hv
  | gtr =>
    simp only [binC] at hv
    split at hv
    · exact pl rfl (gt_p hv)
    · exact pl rfl hv
  | geq =>
    simp only [binC] at hv
    split at hv
    · exact pl rfl (ge_p hv)
    · exact pl rfl hv
  | _ => exact pl rfl hv
theorem bld_fill {place : Nat → Option (Nat × Nat)} : ∀ {parts : List (Nat × Operand)} {ps : List (Nat × Nat)} {z : List NV} {v : NV}, places place parts = some ps → bldO ps z (vals ev parts) = some v → ∃ l, v = .agg l ∧ fillN place ev parts z = some l
  | [], ps, z, v, hp, hv => by
    simp only [places, Option.some.injEq] at hp
    subst hp
    simp only [bldO, Option.some.injEq] at hv
    exact ⟨z, hv.symm, rfl⟩
  | (i, x) :: l, ps, z, v, hp, hv => by
    simp only [places] at hp
    split at hp
    · cases hp
    · rename_i p h1
      split at hp
      · rename_i m h2
        cases hp
        obtain ⟨off, size⟩ := p
        simp only [bldO, vals] at hv
        simp only [fillN, h1]
        split at hv
        · cases hv
        · rename_i vs hvs
          simp only [hvs]
          split at hv
          · cases hv
          · rename_i hb
            simp only [hb]
            split at hv
            · rename_i cs hcs
              simp only [hcs]
              exact bld_fill h2 hv
            · cases hv
      · cases hp
theorem bldS_p {t : TypeId} {parts : Array (Nat × Operand)} {ti : TI} {fs : List FI} {z : List NV} {ps : List (Nat × Nat)} {v : NV} (h1 : ty P t = some ti) (h2 : ti.kind = .struct fs) (h3 : ti.zero = .agg z) (h4 : places (fst2 fs) parts.toList = some ps)
    (hv : bldO ps z (vals ev parts.toList) = some v) : pureN P ev (.build t parts) = some v := by
  obtain ⟨l, rfl, hl⟩ := bld_fill h4 hv
  simp only [pureN, h1, h2, h3, hl]
theorem bldA_p {t e : TypeId} {n : Nat} {parts : Array (Nat × Operand)} {ti : TI} {z : List NV} {ps : List (Nat × Nat)} {v : NV} (h1 : ty P t = some ti) (h2 : ti.kind = .array n e) (h3 : ti.zero = .agg z) (h4 : places (fun i => some (Nat.mul i (P.cellsOf e), P.cellsOf e)) parts.toList = some ps)
    (hv : bldO ps z (vals ev parts.toList) = some v) : pureN P ev (.build t parts) = some v := by
  obtain ⟨l, rfl, hl⟩ := bld_fill h4 hv
  simp only [pureN, h1, h2, h3, hl]
theorem slStr_p {t : TypeId} {x : Operand} {lo hi : Option Operand} {v : NV} (h1 : kd P t = .str) (hv : slStr (ev x) (mapO ev lo) (mapO ev hi) = some v) : pureN P ev (.slice t x lo hi none) = some v := by
  simp only [pureN, h1]; unfold slStr at hv; exact hv
theorem ld_r {t : TypeId} {a : Operand} {ti : TI} {v : NV} (h1 : ty P t = some ti) (hv : ldO ti.size ti.agg h (ev a) = some v) : readN P h.rd ev (.load t a) = some v := by
  rcases onPtr2_some hv with ⟨p, off, he, hv⟩ | ⟨k, o, l, he, hv⟩
  rotate_left
  · simp only [readN, h1, he]
    exact hv
  obtain ⟨b, e1, hv⟩ := optRec_some hv
  rw [rdF_eq] at e1
  simp only [readN, h1, he, loadN, e1]
  cases hagg : ti.agg with
  | true =>
    rw [hagg] at hv
    obtain ⟨l, e2, hv⟩ := optRec_some hv
    rw [cellsF_eq] at e2
    simp only [e2]
    exact hv
  | false =>
    rw [hagg] at hv
    have hv : cellF b off = some v := hv
    rw [cellF_eq] at hv
    exact hv
theorem slc_r {t : TypeId} {x : Operand} {lo hi mx : Option Operand} {v : NV} (hv : slcO P t h (ev x) (mapO ev lo) (mapO ev hi) (mapO ev mx) = some v) : readN P h.rd ev (.slice t x lo hi mx) = some v := by
  simp only [readN]
  unfold slcO at hv
  unfold sliceR
  cases lo <;> cases hi <;> cases mx <;> exact hv
theorem look_r {t kt et : TypeId} {m k : Operand} {ok : Bool} {ei : TI} {v : NV} (h1 : kd P t = .map kt et) (h2 : ty P et = some ei) (hv : lookO P kt ei.zero ok h (ev m) (ev k) = some v) : readN P h.rd ev (.lookup t m k ok) = some v := by
  simp only [readN, h1, h2]; unfold lookO at hv; exact hv
end
end Go.Ne
/- One operation, whatever it is: the staged interpreter's step is the evaluator's. -/
namespace Go.Ne
open Go
variable [Sig]
section
variable {C : Ctx} {call : CallF} {ev : Operand → NV} {h : H}

theorem newM_some {b : NB} {f : Pos → NV} {r : NV × H} (hr : newM b f h = some r) : r = (f h.next, h.alloc b) := by unfold newM at hr; rw [allocF_eq] at hr; cases hr; rfl
theorem actV_new {op : Op} {b : NB} {f : Pos → NV} {r : NV × H} (hr : newM b f h = some r) (hn : actV C call ev op h = effM (effOf C.P h.rd ev op) h) (hc : cls C.P op = .alloc) (hp : allocN C.P ev op = some (b, f)) : actV C call ev op h = some r := by
  cases newM_some hr
  exact actV_alloc hn hc hp
theorem alloc_a {t : TypeId} {ti : TI} {z : List NV} {b : NB} {r : NV × H} (h1 : ty C.P t = some ti) (h2 : ti.zero.cells = some z) (h3 : rowB (isByte (some ti)) z = some b) (hr : alM b h = some r) : actV C call ev (.alloc t) h = some r := by
  unfold alM at hr
  exact actV_new hr rfl rfl (by simp only [allocN, h1, h2, h3])
theorem box_a {t : TypeId} {x : Operand} {r : NV × H} (hr : boxM (isByte (ty C.P t)) (ev x) h = some r) : actV C call ev (.box t x) h = some r := by
  unfold boxM at hr
  split at hr
  · cases hr
  · rename_i l hl
    split at hr
    · rename_i b hb
      exact actV_new hr rfl rfl (by simp only [allocN, hl, hb])
    · cases hr
theorem bsl_a {t e : TypeId} {len : Nat} {parts : Array (Nat × Operand)} {ei : TI} {z : List NV} {ps : List (Nat × Nat)} {r : NV × H} (h1 : kd C.P t = .slice e) (h2 : ty C.P e = some ei) (h3 : Nat.ble (Nat.mul len ei.size) 16777216 = true) (h4 : ei.zero.cells = some z)
    (h5 : places (fun i => some (Nat.mul i ei.size, ei.size)) parts.toList = some ps) (hr : bslM len (isByte (some ei)) ps (repL z len) (vals ev parts.toList) h = some r) : actV C call ev (.buildSlice t len parts) h = some r := by
  unfold bslM at hr
  split at hr
  · rename_i l hl
    obtain ⟨l', e', hf⟩ := bld_fill h5 hl
    cases e'
    split at hr
    · rename_i b hb
      exact actV_new hr rfl rfl (by simp only [allocN, h1, h2, h3, h4, hf, hb])
    · cases hr
  · cases hr
theorem msl_a {t e : TypeId} {l c : Operand} {ei : TI} {r : NV × H} (h1 : kd C.P t = .slice e) (h2 : ty C.P e = some ei) (hr : mslM ei.bytes (isByte (some ei)) ei.zero (ev l) (ev c) h = some r) : actV C call ev (.makeSlice t l c) h = some r := by
  unfold mslM at hr
  split at hr
  · rename_i k0 cn0 hc
    split at hr
    · rename_i cn hcn
      split at hr
      · rename_i k1 ln0 hl
        split at hr
        · rename_i ln hln
          split at hr
          · rename_i hb
            split at hr
            · rename_i hbyte
              split at hr
              · rename_i hz
                exact actV_new hr rfl rfl (by simp only [allocN, h1, h2, hc, hcn, hl, hln, hb, hbyte, hz])
              · cases hr
            · rename_i hbyte
              split at hr
              · rename_i z hz
                exact actV_new hr rfl rfl (by simp only [allocN, h1, h2, hc, hcn, hl, hln, hb, hbyte, hz])
              · cases hr
          · cases hr
        · cases hr
      · cases hr
    · cases hr
  · cases hr
theorem map_a {t k v : TypeId} {x : Option Operand} {r : NV × H} (h1 : kd C.P t = .map k v) (hr : mapM (mapO ev x) h = some r) : actV C call ev (.makeMap t x) h = some r := by
  unfold mapM at hr
  split at hr
  · rename_i hm
    exact actV_new hr rfl rfl (by simp only [allocN, h1, hm])
  · rename_i hm
    exact actV_new hr rfl rfl (by simp only [allocN, h1, hm])
  · cases hr
theorem s2b_a {s d e : TypeId} {x : Operand} {r : NV × H} (h1 : kd C.P s = .str) (h2 : kd C.P d = .slice e) (h3 : kd C.P e = .int .u8) (hr : s2bM (ev x) h = some r) : actV C call ev (.convert s d x) h = some r := by
  unfold s2bM at hr
  split at hr
  · rename_i n v hx
    exact actV_new hr rfl (by simp only [cls, h1, h2]) (by simp only [allocN, h1, h2, h3, hx])
  · cases hr
theorem st_a {t : TypeId} {a x : Operand} {ti : TI} {r : NV × H} (h1 : ty C.P t = some ti) (hr : stM ti.size (ev a) (ev x) h = some r) : actV C call ev (.store t a x) h = some r := by
  refine actV_chain rfl rfl ?_
  obtain ⟨p, off, ha, hr⟩ := onPtr_some hr
  obtain ⟨l, hl, hr⟩ := optRec_some hr
  obtain ⟨hb, hr⟩ := ite_some hr
  obtain ⟨b, hp, hr⟩ := optRec_some hr
  rw [rdF_eq] at hp
  obtain ⟨b', hs, hr⟩ := optRec_some hr
  rw [updF_eq] at hr
  have hs : storeB b off l = some b' := by
    cases l with
    | nil => exact hs
    | cons v l =>
      cases l with
      | nil => rw [← storeF_eq]; exact hs
      | cons u l => exact hs
  cases hr
  simp only [chainN, ha, h1, hl, hb, storeE, hp, hs]
  rfl
theorem upd_a {t : TypeId} {m k x : Operand} {r : NV × H} (hr : updM C.P t (ev m) (ev k) (ev x) h = some r) : actV C call ev (.mapUpdate t m k x) h = some r :=
  actV_chain rfl rfl hr
theorem ins_a {t : TypeId} {m k x : Operand} {r : NV × H} (hr : updM C.P t (ev m) (ev k) (ev x) h = some r) : actV C call ev (.insert t m k x) h = some r :=
  actV_chain rfl rfl hr
theorem cvb_a {s d e e2 : TypeId} {x : Operand} {r : NV × H} (h1 : kd C.P s = .slice e) (h2 : kd C.P d = .slice e2) (h3 : Nat.beq s d = true) (h4 : kd C.P e2 = .int .u8) (hr : cvbM (ev x) h = some r) : actV C call ev (.convert s d x) h = some r := by
  refine actV_chain rfl (by simp only [cls, h1, h2]) ?_
  unfold cvbM at hr
  split at hr
  · rename_i p off len cap hx
    split at hr
    · rename_i m u hp
      simp only [chainN, h3, h2, h4, hx, hp]
      exact hr
    · cases hr
  · cases hr
theorem rng_a {t : TypeId} {x : Operand} {r : NV × H} (h1 : kd C.P t = .str) (hr : rngM (ev x) h = some r) : actV C call ev (.range t x) h = some r := by
  refine actV_chain rfl rfl ?_
  unfold rngM at hr
  split at hr
  · rename_i n a hx
    cases newM_some hr
    simp only [chainN, h1, hx]
    rfl
  · cases hr
theorem nxt_a {it : Operand} {r : NV × H} (hr : nxtM (ev it) h = some r) : actV C call ev (.next it true) h = some r := by
  refine actV_chain rfl rfl ?_
  unfold nxtM at hr
  split at hr
  · rename_i p off hx
    split at hr
    · split at hr
      · rename_i n a pos hp
        split at hr
        · rename_i hb
          cases hr
          simp only [chainN, hx, hp, hb]
          rfl
        · rename_i hb
          split at hr
          · rename_i hc
            cases hr
            simp only [chainN, hx, hp, hb, hc]
            rfl
          · cases hr
      · cases hr
    · cases hr
  · cases hr
theorem b2s_r {s d e : TypeId} {x : Operand} {v : NV} (h1 : kd C.P s = .slice e) (h2 : kd C.P d = .str) (h3 : kd C.P e = .int .u8) (hv : b2s h (ev x) = some v) : actV C call ev (.convert s d x) h = some (v, h) := by
  refine actV_read rfl (by simp only [cls, h1, h2]) ?_
  simp only [readN, h1, h2, h3]
  unfold b2s at hv
  exact hv
theorem cvS_p {s d : TypeId} {x : Operand} {v : NV} (h1 : kd C.P s = .str) (h2 : kd C.P d = .str) (hv : cvS (ev x) = some v) : actV C call ev (.convert s d x) h = some (v, h) := by
  refine actV_pure rfl (by simp only [cls, h1, h2]) ?_
  simp only [pureN, h1, h2]
  exact hv
theorem cvI_p {s d : TypeId} {k : IntKind} {x : Operand} {v : NV} (h1 : kd C.P s ≠ .other) (h0 : ∀ e, kd C.P s ≠ .slice e) (_h4 : kd C.P s ≠ .str) (h2 : kd C.P d = .int k) (hv : cvI k (ev x) = some v) : actV C call ev (.convert s d x) h = some (v, h) := by
  refine actV_pure rfl ?_ ?_
  · simp only [cls, h2]
    cases hk : kd C.P s <;> first | rfl | exact absurd hk (h0 _)
  · simp only [pureN, h2]
    have : cvI k (ev x) = some v := hv
    unfold cvI at this
    cases hk : kd C.P s <;> first | exact this | exact absurd hk (h0 _) | exact absurd hk h1

theorem mapL_one {x : Operand} {l : List Operand} (hl : l = [x]) : mapL ev l = [ev x] := by subst hl; rfl
theorem mapL_two {x y : Operand} {l : List Operand} (hl : l = [x, y]) : mapL ev l = [ev x, ev y] := by subst hl; rfl
theorem mapL_cons {x : Operand} {l m : List Operand} (hl : l = x :: m) : mapL ev l = ev x :: mapL ev m := by subst hl; rfl
theorem kd0_cons {c : Go.Call} {t : TypeId} {l : List TypeId} (hl : c.argTypes.toList = t :: l) : kd0 C.P c = kd C.P t := by unfold kd0; rw [hl]
theorem lenStr_some {v r : NV} (h : lenStr v = some r) : ∃ n a, v = .str n a ∧ r = numL n := by
  obtain ⟨n, a, e, h⟩ := onStr_some h
  rw [numF_eq] at h
  cases h
  exact ⟨n, a, e, rfl⟩
theorem lenSl_eq (v : NV) : lenSl v = match v with
  | .slice _ _ n _ => some (numL n)
  | .nslice => some (numL 0)
  | .slost => some (numL 0)
  | .anys i a b => some (.sint .i64 i a b)
  | .fsl _ n _ => some (numL n)
  | _ => none := by
  cases v <;> first | rfl | (show some (numF _) = _; rw [numF_eq])
theorem call_a (hF : ∀ g, ev (.func g) = .func (.func g) [] []) {c : Go.Call} {k : NV → H → R} {r : NV × H} (hr : callC C.P call ev h c k = some r) : ∃ v h', actV C call ev (.call c) h = some (v, h') ∧ k v h' = some r := by
  obtain ⟨cal, args, ats⟩ := c
  have pb : ∀ (b : Builtin) (v : NV), cls C.P (.call ⟨.builtin b, args, ats⟩) = .pure → pureN C.P ev (.call ⟨.builtin b, args, ats⟩) = some v → actV C call ev (.call ⟨.builtin b, args, ats⟩) h = some (v, h) := fun b v hc hp => actV_pure rfl hc hp
  have rb : ∀ (b : Builtin) (v : NV), cls C.P (.call ⟨.builtin b, args, ats⟩) = .read → readN C.P h.rd ev (.call ⟨.builtin b, args, ats⟩) = some v → actV C call ev (.call ⟨.builtin b, args, ats⟩) h = some (v, h) := fun b v hc hp => actV_read rfl hc hp
  have cb : ∀ (b : Builtin) (r : NV × H), cls C.P (.call ⟨.builtin b, args, ats⟩) = .chain → effM (chainN C.P h.rd ev (.call ⟨.builtin b, args, ats⟩)) h = some r → actV C call ev (.call ⟨.builtin b, args, ats⟩) h = some r := fun b v hc hp => actV_chain rfl hc hp
  unfold callC at hr
  split at hr
  · rename_i f args' ats' hc
    cases hc
    split at hr
    · rename_i g
      obtain ⟨v, h', h1, h2⟩ := mK_some hr
      refine ⟨v, h', ?_, h2⟩
      unfold calM at h1
      simp only [actV, hF, appL_eq, List.nil_append, List.append_nil]
      exact h1
    · obtain ⟨v, h', h1, h2⟩ := mK_some hr
      refine ⟨v, h', ?_, h2⟩
      unfold calV at h1
      simp only [actV]
      split at h1
      · rename_i fn first cap he
        rw [he]
        cases fn <;> first | exact h1 | cases h1
      · cases h1
  · rename_i b args' ats' hc
    cases hc
    split at hr
    · -- len
      split at hr
      · rename_i x hx
        split at hr
        · cases hr
        · rename_i t l hl
          have hk0 : ∀ (c : Callee), kd0 C.P ⟨c, args, ats⟩ = kd C.P t := fun c => kd0_cons hl
          split at hr
          · rename_i n e hk
            exact ⟨_, _, pb _ _ (by simp only [cls, hk0, hk]) (by simp only [pureN, mapL_one hx, hk0, hk]), hr⟩
          · rename_i e hk
            split at hr
            · rename_i n e2 hk2
              exact ⟨_, _, pb _ _ (by simp only [cls, hk0, hk]) (by simp only [pureN, mapL_one hx, hk0, hk, hk2]), hr⟩
            · cases hr
          · rename_i hk
            obtain ⟨v, h1, h2⟩ := bK_some hr
            obtain ⟨n, a, h3, rfl⟩ := lenStr_some h1
            exact ⟨_, _, pb _ _ (by simp only [cls, hk0, hk]) (by simp only [pureN, mapL_one hx, hk0, hk, h3]), h2⟩
          · rename_i e hk
            obtain ⟨v, h1, h2⟩ := bK_some hr
            refine ⟨v, _, pb _ _ (by simp only [cls, hk0, hk]) ?_, h2⟩
            simp only [pureN, mapL_one hx, hk0, hk]
            rw [lenSl_eq] at h1
            exact h1
          · rename_i k0 v0 hk
            obtain ⟨v, h1, h2⟩ := bK_some hr
            refine ⟨v, _, rb _ _ (by simp only [cls, hk0, hk]) ?_, h2⟩
            simp only [readN, mapL_one hx]
            unfold lenM at h1
            split at h1
            · rename_i he; rw [he]; exact h1
            · rename_i p he; rw [he]; exact h1
            · cases h1
          · cases hr
      · cases hr
    · -- cap
      split at hr
      · rename_i x hx
        split at hr
        · cases hr
        · rename_i t l hl
          have hk0 : ∀ (c : Callee), kd0 C.P ⟨c, args, ats⟩ = kd C.P t := fun c => kd0_cons hl
          split at hr
          · rename_i e hk
            obtain ⟨v, h1, h2⟩ := bK_some hr
            refine ⟨v, _, pb _ _ rfl ?_, h2⟩
            simp only [pureN, mapL_one hx, hk0, hk]
            unfold capO at h1
            split at h1
            · rename_i he; rw [he]; exact h1
            · rename_i p a b c he
              rw [he]
              cases c <;> first | exact h1 | cases h1
            · cases h1
          · cases hr
      · cases hr
    · -- max
      split at hr
      · cases hr
      · rename_i x l hx
        obtain ⟨v, h1, h2⟩ := bK_some hr
        exact ⟨v, _, pb _ _ rfl (by simp only [pureN, mapL_cons hx]; exact h1), h2⟩
    · -- min
      split at hr
      · cases hr
      · rename_i x l hx
        obtain ⟨v, h1, h2⟩ := bK_some hr
        exact ⟨v, _, pb _ _ rfl (by simp only [pureN, mapL_cons hx]; exact h1), h2⟩
    · -- append
      split at hr
      · rename_i t u hats
        split at hr
        · rename_i e hk
          split at hr
          · rename_i s x hx
            split at hr
            · rename_i k0 hku
              obtain ⟨v, h', h1, h2⟩ := mK_some hr
              refine ⟨v, h', cb _ _ rfl ?_, h2⟩
              simp only [chainN, hats, hk, hku, mapL_two hx]
              exact h1
            · cases hr
            · rename_i n1 n2
              obtain ⟨v, h', h1, h2⟩ := mK_some hr
              refine ⟨v, h', cb _ _ rfl ?_, h2⟩
              simp only [chainN, hats, hk, mapL_two hx]
              cases hku : kd C.P u <;> first | exact h1 | exact absurd hku (n1 _) | exact absurd hku n2
          · cases hr
        · cases hr
      · cases hr
    · -- copy
      split at hr
      · rename_i d x hx
        split at hr
        · rename_i e hk
          obtain ⟨v, h', h1, h2⟩ := mK_some hr
          refine ⟨v, h', cb _ _ rfl ?_, h2⟩
          simp only [chainN, hk, mapL_two hx]
          exact h1
        · cases hr
      · cases hr
    · cases hr
  · cases hr

/-- One operation. -/
theorem opK_ok (hF : ∀ g, ev (.func g) = .func (.func g) [] []) {op : Op} {k : NV → H → R} {r : NV × H} (hr : opK C.P call ev h op k = some r) : ∃ v h', actV C call ev op h = some (v, h') ∧ k v h' = some r := by
  cases op with
  | move x => exact ⟨_, _, actV_pure rfl rfl rfl, hr⟩
  | assign x => exact ⟨_, _, actV_pure rfl rfl rfl, hr⟩
  | pick c a b => obtain ⟨v, h1, h2⟩ := bK_some hr; exact ⟨v, _, actV_pure rfl rfl (pick_p h1), h2⟩
  | build t parts =>
    simp only [opK] at hr
    split at hr
    · cases hr
    · rename_i ti hti
      split at hr
      · rename_i fs hk
        split at hr
        · rename_i z hz
          split at hr
          · rename_i ps hps
            obtain ⟨v, h1, h2⟩ := bK_some hr
            exact ⟨v, _, actV_pure rfl rfl (bldS_p hti hk hz hps h1), h2⟩
          · cases hr
        · cases hr
      · rename_i n e hk
        split at hr
        · rename_i z hz
          split at hr
          · rename_i ps hps
            obtain ⟨v, h1, h2⟩ := bK_some hr
            exact ⟨v, _, actV_pure rfl rfl (bldA_p hti hk hz hps h1), h2⟩
          · cases hr
        · cases hr
      · cases hr
  | nilCheck x => obtain ⟨v, h1, h2⟩ := bK_some hr; exact ⟨v, _, actV_pure rfl rfl (nil_p h1), h2⟩
  | unOp op t x =>
    simp only [opK] at hr
    split at hr
    · obtain ⟨v, h1, h2⟩ := bK_some hr; exact ⟨v, _, actV_pure rfl rfl (not_p h1), h2⟩
    · obtain ⟨v, h1, h2⟩ := bK_some hr; exact ⟨v, _, actV_pure rfl rfl (un_p h1), h2⟩
  | makeInterface t x =>
    refine ⟨.iface t (ev x), h, actV_pure rfl rfl ?_, ?_⟩
    · simp only [opK] at hr
      simp only [pureN]
      cases hk : kd C.P t <;> rw [hk] at hr <;> first | rfl | cases hr
    · simp only [opK] at hr
      cases hk : kd C.P t <;> rw [hk] at hr <;> first | exact hr | cases hr
  | makeFunc fn a b => exact ⟨_, _, actV_pure rfl rfl rfl, hr⟩
  | fieldAddr s x f =>
    simp only [opK] at hr
    split at hr
    · rename_i fs hk
      split at hr
      · rename_i fi hf
        split at hr
        · cases hr
        · rename_i hz
          obtain ⟨v, h1, h2⟩ := bK_some hr
          exact ⟨v, _, actV_pure rfl rfl (fAddr_p hk hf hz h1), h2⟩
      · cases hr
    · cases hr
  | field s x f =>
    simp only [opK] at hr
    split at hr
    · rename_i fs hk
      split at hr
      · rename_i fi hf
        obtain ⟨v, h1, h2⟩ := bK_some hr
        exact ⟨v, _, actV_pure rfl rfl (fld_p hk hf h1), h2⟩
      · cases hr
    · cases hr
  | indexAddr t x i =>
    simp only [opK] at hr
    split at hr
    · rename_i e hk; obtain ⟨v, h1, h2⟩ := bK_some hr; exact ⟨v, _, actV_pure rfl rfl (ixS_p hk h1), h2⟩
    · rename_i n e hk; obtain ⟨v, h1, h2⟩ := bK_some hr; exact ⟨v, _, actV_pure rfl rfl (ixA_p hk h1), h2⟩
    · cases hr
  | index t x i =>
    simp only [opK] at hr
    split at hr
    · rename_i hk; obtain ⟨v, h1, h2⟩ := bK_some hr; exact ⟨v, _, actV_pure rfl rfl (ixStr_p hk h1), h2⟩
    · rename_i n e hk; obtain ⟨v, h1, h2⟩ := bK_some hr; exact ⟨v, _, actV_pure rfl rfl (ixArr_p hk h1), h2⟩
    · cases hr
  | extract x i => obtain ⟨v, h1, h2⟩ := bK_some hr; exact ⟨v, _, actV_pure rfl rfl (ext_p h1), h2⟩
  | binOp op t x y t2 => obtain ⟨v, h1, h2⟩ := bK_some hr; exact ⟨v, _, bin_ok h1, h2⟩
  | slice t x lo hi mx =>
    simp only [opK] at hr
    split at hr
    · rename_i hk
      split at hr
      · obtain ⟨v, h1, h2⟩ := bK_some hr
        exact ⟨v, _, actV_pure rfl (by simp only [cls, hk]) (slStr_p hk h1), h2⟩
      · cases hr
    · rename_i hk
      obtain ⟨v, h1, h2⟩ := bK_some hr
      refine ⟨v, _, actV_read rfl ?_ (slc_r h1), h2⟩
      simp only [cls]
  | load t a =>
    simp only [opK] at hr
    split at hr
    · rename_i ti hti; obtain ⟨v, h1, h2⟩ := bK_some hr; exact ⟨v, _, actV_read rfl rfl (ld_r hti h1), h2⟩
    · cases hr
  | lookup t m kx ok =>
    simp only [opK] at hr
    split at hr
    · rename_i kt et hk
      split at hr
      · rename_i ei hei; obtain ⟨v, h1, h2⟩ := bK_some hr; exact ⟨v, _, actV_read rfl rfl (look_r hk hei h1), h2⟩
      · cases hr
    · cases hr
  | convert s d x =>
    simp only [opK] at hr
    split at hr
    · cases hr
    · rename_i e hs
      split at hr
      · rename_i hd
        split at hr
        · rename_i he; obtain ⟨v, h1, h2⟩ := bK_some hr; exact ⟨v, _, b2s_r hs hd he h1, h2⟩
        · cases hr
      · rename_i e2 hd
        split at hr
        · cases hr
        · rename_i hb
          split at hr
          · rename_i he2; obtain ⟨v, h', h1, h2⟩ := mK_some hr; exact ⟨v, h', cvb_a hs hd hb he2 h1, h2⟩
          · cases hr
      · cases hr
    · rename_i hs
      split at hr
      · rename_i hd; obtain ⟨v, h1, h2⟩ := bK_some hr; exact ⟨v, _, cvS_p hs hd h1, h2⟩
      · rename_i e hd
        split at hr
        · rename_i he; obtain ⟨v, h', h1, h2⟩ := mK_some hr; exact ⟨v, h', s2b_a hs hd he h1, h2⟩
        · cases hr
      · cases hr
    · rename_i n1 n2 n3
      split at hr
      · rename_i kk hd; obtain ⟨v, h1, h2⟩ := bK_some hr; exact ⟨v, _, cvI_p n1 n2 n3 hd h1, h2⟩
      · cases hr
  | alloc t =>
    simp only [opK] at hr
    split at hr
    · rename_i ti hti
      split at hr
      · cases hr
      · rename_i z hz
        split at hr
        · rename_i b hb; obtain ⟨v, h', h1, h2⟩ := mK_some hr; exact ⟨v, h', alloc_a hti hz hb h1, h2⟩
        · cases hr
    · cases hr
  | box t x => obtain ⟨v, h', h1, h2⟩ := mK_some hr; exact ⟨v, h', box_a h1, h2⟩
  | buildSlice t len parts =>
    simp only [opK] at hr
    split at hr
    · rename_i e hk
      split at hr
      · rename_i ei hei
        split at hr
        · cases hr
        · rename_i hb
          split at hr
          · cases hr
          · rename_i z hz
            split at hr
            · rename_i ps hps; obtain ⟨v, h', h1, h2⟩ := mK_some hr; exact ⟨v, h', bsl_a hk hei hb hz hps h1, h2⟩
            · cases hr
      · cases hr
    · cases hr
  | makeSlice t l c =>
    simp only [opK] at hr
    split at hr
    · rename_i e hk
      split at hr
      · rename_i ei hei; obtain ⟨v, h', h1, h2⟩ := mK_some hr; exact ⟨v, h', msl_a hk hei h1, h2⟩
      · cases hr
    · cases hr
  | makeMap t x =>
    simp only [opK] at hr
    split at hr
    · rename_i k0 v0 hk; obtain ⟨v, h', h1, h2⟩ := mK_some hr; exact ⟨v, h', map_a hk h1, h2⟩
    · cases hr
  | store t a x =>
    simp only [opK] at hr
    split at hr
    · rename_i ti hti; obtain ⟨v, h', h1, h2⟩ := mK_some hr; exact ⟨v, h', st_a hti h1, h2⟩
    · cases hr
  | mapUpdate t m kx x => obtain ⟨v, h', h1, h2⟩ := mK_some hr; exact ⟨v, h', upd_a h1, h2⟩
  | insert t m kx x => obtain ⟨v, h', h1, h2⟩ := mK_some hr; exact ⟨v, h', ins_a h1, h2⟩
  | range t x =>
    simp only [opK] at hr
    split at hr
    · rename_i hk; obtain ⟨v, h', h1, h2⟩ := mK_some hr; exact ⟨v, h', rng_a hk h1, h2⟩
    · cases hr
  | next it isS =>
    cases isS with
    | false => simp only [opK, reduceCtorEq] at hr
    | true => obtain ⟨v, h', h1, h2⟩ := mK_some hr; exact ⟨v, h', nxt_a h1, h2⟩
  | call c => exact call_a hF hr
  | _ => simp only [opK, reduceCtorEq] at hr
end
end Go.Ne
/- The staged interpreter's regions are the evaluator's. -/
namespace Go.Ne
open Go
variable [Sig]
def guardV (v : NV) (want : Bool) : Option Bool := match v with
  | .bool b => some (match b, want with | true, w => w | false, w => negB w)
  | .tuple [] => some false
  | _ => none
theorem gK_some {v : NV} {want : Bool} {yes no : R} {r : NV × H} (h : gK v want yes no = some r) : guardV v want = some true ∧ yes = some r ∨ guardV v want = some false ∧ no = some r := by
  cases v with
  | bool x => cases x <;> cases want <;> first | exact .inl ⟨rfl, h⟩ | exact .inr ⟨rfl, h⟩
  | tuple l =>
    cases l with
    | nil => exact .inr ⟨rfl, h⟩
    | cons a l => cases h
  | _ => cases h
theorem guardN_of {ops : List Oper} {t : Tm} {j : Nat} {want : Bool} {d : Tmp} (h : gTmp ops (some (j, want)) = some d) : guardN ops t (some (j, want)) = guardV (t.get d) want := by
  simp only [gTmp] at h
  split at h
  · cases h
  · rename_i o ho
    simp only [guardN, ho, h]
    rfl
theorem putK_some {t : Tm} {d : Option Tmp} {v : NV} {k : Tm → R} {r : NV × H} (h : putK t d v k = some r) : ∃ t', t.put d v = some t' ∧ k t' = some r := by
  unfold putK at h
  split at h
  · cases h
  · exact ⟨_, by assumption, h⟩

section
variable {C : Ctx} {call : CallF}
theorem seqK_ok {ops : List Oper} : ∀ {l : List Oper} {t : Tm} {h : H} {k : Tm → H → R} {r : NV × H}, ikSeq C.P call C.ng ops l t h k = some r → ∃ t' h', seqN C call ops l t h = some (t', h') ∧ k t' h' = some r
  | [], t, h, k, r, hr => ⟨t, h, rfl, hr⟩
  | o :: l, t, h, k, r, hr => by
    have go : ∀ {v : NV} {h1 : H}, (guardN ops t o.guard = some true ∧ actV C call (evT C.ng t) o.op h = some (v, h1) ∨ guardN ops t o.guard = some false ∧ v = .tuple [] ∧ h1 = h) → putK t o.dst v (fun t => ikSeq C.P call C.ng ops l t h1 k) = some r →
        ∃ t' h', seqN C call ops (o :: l) t h = some (t', h') ∧ k t' h' = some r := by
      intro v h1 hg hp
      obtain ⟨t1, hp1, hp2⟩ := putK_some hp
      obtain ⟨t', h', k1, k2⟩ := seqK_ok hp2
      refine ⟨t', h', ?_, k2⟩
      simp only [seqN, stepN]
      rcases hg with ⟨hg, ha⟩ | ⟨hg, rfl, rfl⟩
      · rw [hg]
        simp only [actN_of ha hp1]
        exact k1
      · rw [hg]
        simp only [hp1]
        exact k1
    simp only [ikSeq] at hr
    split at hr
    · rename_i hn
      obtain ⟨v, h1, h2, h3⟩ := opK_ok (fun g => rfl) hr
      exact go (.inl ⟨by rw [hn]; rfl, h2⟩) h3
    · rename_i j want hgd
      split at hr
      · cases hr
      · rename_i d hd
        rw [hgd] at hd
        have hgn : guardN ops t o.guard = guardV (t.get d) want := by rw [hgd]; exact guardN_of hd
        simp only [jK] at hr
        rcases gK_some hr with ⟨h1, h2⟩ | ⟨h1, h2⟩
        · obtain ⟨v, h3, h4, h5⟩ := opK_ok (fun g => rfl) h2
          exact go (.inl ⟨hgn.trans h1, h4⟩) h5
        · exact go (.inr ⟨hgn.trans h1, rfl, rfl⟩) h2

/-! ### Regions that draw their order -/
theorem gD_some {R' : Rg} {i : Nat} {o : Oper} {t : Tm} {h : H} {act : (NV → H → R) → R} {k : NV → H → R} {r : NV × H} (hr : gD R' i o t h act k = some r) :
    guardD R'.ops (maskAt R'.ms i) t o.guard = some true ∧ act k = some r ∨ guardD R'.ops (maskAt R'.ms i) t o.guard = some false ∧ k (.tuple []) h = some r := by
  unfold gD at hr
  split at hr
  · rename_i hn; rw [hn]; exact .inl ⟨rfl, hr⟩
  · rename_i j want hgd
    split at hr
    · cases hr
    · rename_i hb
      split at hr
      · cases hr
      · rename_i d hd
        rw [hgd] at hd ⊢
        simp only [guardD, hb, guardN_of hd]
        simp only [jK] at hr
        exact gK_some hr
theorem okNames_of (n : Nat) : ∀ (k f : Nat) (v : Value), k < f → okNames n f (ofValue k v) = true
  | 0, f, v, hf => by
    cases f with
    | zero => omega
    | succ f => rfl
  | k + 1, f, v, hf => by
    cases f with
    | zero => omega
    | succ f =>
      have hl : ∀ (l : List Value), okNames.okNamesL (okNames n f) (mapL (ofValue k) l) = true := by
        intro l
        induction l with
        | nil => rfl
        | cons a l ih => simp only [mapL, okNames.okNamesL, okNames_of n k f a (by omega)]; exact ih
      unfold ofValue
      split <;> first
        | rfl
        | (simp only [okNames, hl])
theorem evC_eq {R' : Rg} {i : Nat} {t : Tm} {h : H} : evC C.ng R' i t h = evB C.ng R' i t h.next.toNat := by
  funext x
  cases x with
  | tmp y => simp only [evC, chkV, chkR_eq, chkF_eq]; rfl
  | global g => simp only [evC, chkV, chkR_eq, chkF_eq]; rfl
  | const v =>
    have : okNames h.next.toNat 20 (evD C.ng R' i t (.const v)) = true := okNames_of _ 10 20 v (by omega)
    simp only [evC, evB, this]
  | func f => rfl
theorem evD_func {R' : Rg} {i : Nat} {t : Tm} (g : FuncId) : evD C.ng R' i t (.func g) = .func (.func g) [] [] := rfl
theorem evC_func {R' : Rg} {i : Nat} {t : Tm} {h : H} (g : FuncId) : evC C.ng R' i t h (.func g) = .func (.func g) [] [] := rfl
theorem actV_eff {ev : Operand → NV} {op : Op} {h : H} (hc : cls C.P op ≠ .chain) : actV C call ev op h = effM (effOf C.P h.rd ev op) h := by
  unfold actV
  split
  · exact absurd rfl hc
  · rfl
theorem pure_inv {ev : Operand → NV} {op : Op} {h h' : H} {v : NV} (hc : cls C.P op = .pure) (ha : actV C call ev op h = some (v, h')) : pureN C.P ev op = some v ∧ h' = h := by
  rw [actV_eff (by rw [hc]; simp)] at ha
  unfold effOf at ha
  rw [hc] at ha
  simp only at ha
  split at ha
  · rename_i u hu; cases ha; exact ⟨hu, rfl⟩
  · cases ha
theorem read_inv {ev : Operand → NV} {op : Op} {h h' : H} {v : NV} (hc : cls C.P op = .read) (ha : actV C call ev op h = some (v, h')) : readN C.P h.rd ev op = some v ∧ h' = h := by
  rw [actV_eff (by rw [hc]; simp)] at ha
  unfold effOf at ha
  rw [hc] at ha
  simp only at ha
  split at ha
  · rename_i u hu; cases ha; exact ⟨hu, rfl⟩
  · cases ha
theorem alloc_inv {ev : Operand → NV} {op : Op} {h h' : H} {v : NV} (hc : cls C.P op = .alloc) (ha : actV C call ev op h = some (v, h')) : ∃ b f, allocN C.P ev op = some (b, f) ∧ v = f h.next ∧ h' = h.alloc b := by
  rw [actV_eff (by rw [hc]; simp)] at ha
  unfold effOf at ha
  rw [hc] at ha
  simp only at ha
  split at ha
  · rename_i b f hu; cases ha; exact ⟨b, f, hu, rfl, rfl⟩
  · cases ha

theorem dQuiet_ok {R' : Rg} {h : H} {last : Option Nat} : ∀ {l : List Nat} {t : Tm} {x : Nat} {k : Tm → Nat → R} {r : NV × H}, dQuiet C.P call C.ng R' h last l t x k = some r → ∃ t' x', quietD C R' h last l t x = some (t', x') ∧ k t' x' = some r
  | [], t, x, k, r, hr => ⟨t, x, rfl, hr⟩
  | i :: l, t, x, k, r, hr => by
    simp only [dQuiet] at hr
    split at hr
    · cases hr
    · rename_i hm
      split at hr
      · cases hr
      · rename_i o ho
        have go : ∀ {v : NV}, quietV C R' h last i o t = some v → putK t o.dst v (fun t => dQuiet C.P call C.ng R' h last l t (mark i x) k) = some r → ∃ t' x', quietD C R' h last (i :: l) t x = some (t', x') ∧ k t' x' = some r := by
          intro v hv hp
          obtain ⟨t1, hp1, hp2⟩ := putK_some hp
          obtain ⟨t', x', k1, k2⟩ := dQuiet_ok hp2
          refine ⟨t', x', ?_, k2⟩
          simp only [quietD, hm, ho, hv, hp1]
          exact k1
        rcases gD_some hr with ⟨h1, h2⟩ | ⟨h1, h2⟩
        · try simp only at h2
          split at h2
          · rename_i hc
            obtain ⟨v, h', h3, h4⟩ := opK_ok evD_func h2
            obtain ⟨h5, _⟩ := pure_inv hc h3
            exact go (by simp only [quietV, h1, hc, h5]) h4
          · rename_i hc
            split at h2
            · rename_i hl
              obtain ⟨v, h', h3, h4⟩ := opK_ok evC_func h2
              obtain ⟨h5, _⟩ := read_inv hc h3
              rw [evC_eq] at h5
              refine go ?_ h4
              simp only [quietV, h1, hc, h5]
              cases last with
              | none => rfl
              | some e => simp only at hl ⊢; rw [hl]
            · cases h2
          · cases h2
        · exact go (by simp only [quietV, h1]) h2
theorem dRecheck_ok {R' : Rg} {h : H} {t : Tm} : ∀ {l : List Nat} {k : R} {r : NV × H}, dRecheck C.P call C.ng R' h t l k = some r → recheckD C R' h t l = true ∧ k = some r
  | [], k, r, hr => ⟨rfl, hr⟩
  | i :: l, k, r, hr => by
    simp only [dRecheck] at hr
    split at hr
    · cases hr
    · rename_i o ho
      split at hr
      · cases hr
      · rename_i hn
        split at hr
        · rename_i hc
          obtain ⟨v, h', h3, h4⟩ := opK_ok evC_func hr
          obtain ⟨h5, _⟩ := read_inv hc h3
          rw [evC_eq] at h5
          simp only [recheckD, ho, hn, guardD, h5]
          split at h4
          · rename_i hd
            rw [hd]
            exact dRecheck_ok h4
          · rename_i d hd
            rw [hd]
            unfold sameK at h4
            split at h4
            · rename_i hb
              simp only [hb]
              exact dRecheck_ok h4
            · cases h4
        · cases hr
theorem dCatch_ok {R' : Rg} {need : Option Nat} : ∀ {l : List Nat} {t : Tm} {h : H} {x : Nat} {k : Tm → H → Nat → R} {r : NV × H}, dCatch C.P call C.ng R' need l t h x k = some r → ∃ t' h' x', catchD C R' need l t h x = some (t', h', x') ∧ k t' h' x' = some r
  | [], t, h, x, k, r, hr => ⟨t, h, x, rfl, hr⟩
  | i :: l, t, h, x, k, r, hr => by
    simp only [dCatch] at hr
    split at hr
    · cases hr
    · rename_i hm
      split at hr
      · cases hr
      · rename_i hn
        split at hr
        · cases hr
        · rename_i o ho
          rcases gD_some hr with ⟨h1, h2⟩ | ⟨h1, h2⟩
          · try simp only at h2
            split at h2
            · rename_i hc
              obtain ⟨v, h', h3, h4⟩ := opK_ok evD_func h2
              obtain ⟨h5, rfl⟩ := pure_inv hc h3
              obtain ⟨t1, hp1, hp2⟩ := putK_some h4
              obtain ⟨t', h', x', k1, k2⟩ := dCatch_ok hp2
              refine ⟨t', h', x', ?_, k2⟩
              simp only [catchD, hm, hn, ho, h1, hc, h5, hp1]
              exact k1
            · rename_i hc
              obtain ⟨v, h', h3, h4⟩ := opK_ok evC_func h2
              obtain ⟨b, f, h5, rfl, rfl⟩ := alloc_inv hc h3
              rw [evC_eq] at h5
              obtain ⟨t1, hp1, hp2⟩ := putK_some h4
              obtain ⟨t', h', x', k1, k2⟩ := dCatch_ok hp2
              refine ⟨t', h', x', ?_, k2⟩
              simp only [catchD, hm, hn, ho, h1, hc, h5, hp1]
              exact k1
            · cases h2
          · obtain ⟨t1, hp1, hp2⟩ := putK_some h2
            obtain ⟨t', h', x', k1, k2⟩ := dCatch_ok hp2
            refine ⟨t', h', x', ?_, k2⟩
            simp only [catchD, hm, hn, ho, h1, hp1]
            exact k1
theorem dChain_ok {R' : Rg} {last : Option Nat} {e : Nat} {t : Tm} {h : H} {x : Nat} {k : Tm → H → R} {r : NV × H} (hr : dChain C.P call C.ng R' last e t h x k = some r) : ∃ t' h', chainD C call R' last e t h x = some (t', h') ∧ k t' h' = some r := by
  unfold dChain at hr
  split at hr
  · cases hr
  · rename_i hm
    split at hr
    · cases hr
    · rename_i hf
      split at hr
      · cases hr
      · rename_i o ho
        rcases gD_some hr with ⟨h1, h2⟩ | ⟨h1, h2⟩
        · obtain ⟨v, h', h3, h4⟩ := opK_ok evC_func h2
          rw [evC_eq] at h3
          obtain ⟨t1, hp1, hp2⟩ := putK_some h4
          refine ⟨t1, h', ?_, hp2⟩
          simp only [chainD, hm, hf, ho, h1, actN_of h3 hp1]
        · obtain ⟨t1, hp1, hp2⟩ := putK_some h2
          refine ⟨t1, h, ?_, hp2⟩
          simp only [chainD, hm, hf, ho, h1, hp1]
theorem stT_ok {ev : Operand → NV} {h : H} {t : TypeId} {a x : Operand} {ti : TI} {p : Pos} {b : NB} (h1 : ty C.P t = some ti) (hr : stT ti.size (ev a) (ev x) h = some (p, b)) : chainN C.P h.rd ev (.store t a x) = some ⟨[(p, some b)], none, fun _ => .tuple []⟩ := by
  unfold stT at hr
  split at hr
  · rename_i q off ha
    split at hr
    · cases hr
    · rename_i l hl
      split at hr
      · rename_i hb
        split at hr
        · cases hr
        · rename_i b0 hp
          split at hr
          · rename_i b' hs
            cases hr
            simp only [chainN, ha, h1, hl, hb, storeE, hp, hs]
          · cases hr
      · cases hr
  · cases hr
theorem dTail_ok {R' : Rg} {h : H} {last : Option Nat} {late all : List Nat} : ∀ {l : List Nat} {t : Tm} {x : Nat} {k : Tm → Nat → List (Pos × Option NB) → R} {r : NV × H}, dTail C.P C.ng R' h last late all l t x k = some r →
    ∃ t' x' ups, tailD C R' h last late all l t x = some (t', x', ups) ∧ k t' x' ups = some r
  | [], t, x, k, r, hr => ⟨t, x, [], rfl, hr⟩
  | j :: l, t, x, k, r, hr => by
    simp only [dTail] at hr
    split at hr
    · cases hr
    · rename_i hm
      split at hr
      · cases hr
      · rename_i hf
        split at hr
        · cases hr
        · rename_i ha
          split at hr
          · cases hr
          · rename_i o ho
            split at hr
            · cases hr
            · rename_i hg
              split at hr
              · rename_i ty' a v hop
                split at hr
                · rename_i ti hti
                  unfold tlK at hr
                  split at hr
                  · cases hr
                  · rename_i x0 pb hst
                    obtain ⟨p, b⟩ := pb
                    have hst2 := stT_ok (C := C) hti hst
                    rw [evC_eq] at hst2
                    obtain ⟨t1, hp1, hp2⟩ := putK_some hr
                    obtain ⟨t', x', ups, k1, k2⟩ := dTail_ok hp2
                    unfold hasK at k2
                    split at k2
                    · cases k2
                    · rename_i hh
                      refine ⟨t', x', (p, some b) :: ups, ?_, k2⟩
                      simp only [tailD, hm, hf, ha, ho, hg, hop, hst2, hp1, k1, hh]
                · cases hr
              · cases hr
theorem dStages_ok {R' : Rg} : ∀ {l : List Stage} {last : Option Nat} {reads : List Nat} {t : Tm} {h : H} {x : Nat} {k : Tm → H → R} {r : NV × H}, dStages C.P call C.ng R' l last reads t h x k = some r → ∃ t' h', stagesD C call R' l last reads t h x = some (t', h') ∧ k t' h' = some r
  | [], _, _, _, _, _, _, _, hr => by simp only [dStages, reduceCtorEq] at hr
  | s :: l, last, reads, t, h, x, k, r, hr => by
    simp only [dStages] at hr
    obtain ⟨t1, x1, q1, hr⟩ := dQuiet_ok hr
    obtain ⟨q2, hr⟩ := dRecheck_ok hr
    simp only [stagesD, q1, q2]
    split at hr
    · rename_i hc
      obtain ⟨t2, h2, x2, q3, hr⟩ := dCatch_ok hr
      simp only [hc, q3]
      split at hr
      · rename_i ht
        split at hr
        · rename_i hb
          refine ⟨t2, h2, ?_, hr⟩
          simp only [ht, tailD, hb, H.upds]
        · cases hr
      · rename_i a m ht
        obtain ⟨t3, x3, ups, q4, hr⟩ := dTail_ok hr
        split at hr
        · rename_i hb
          refine ⟨t3, h2.upds ups, ?_, hr⟩
          simp only [q4, hb]
        · cases hr
    · rename_i e hc
      obtain ⟨t2, h2, x2, q3, hr⟩ := dCatch_ok hr
      obtain ⟨t3, h3, q4, hr⟩ := dChain_ok hr
      unfold nextK at hr
      split at hr
      · cases hr
      · rename_i hb0
        have hb : Nat.ble h2.next.toNat h3.next.toNat = true := by
          rw [below_eq] at hb0
          rw [Nat.ble_eq]
          have : ¬ (h3.next.toNat < h2.next.toNat) := fun hlt => by
            have := (Nat.blt_eq ▸ hlt : Nat.blt h3.next.toNat h2.next.toNat = true)
            rw [hb0] at this
            cases this
          omega
        obtain ⟨t', h', q5, hr⟩ := dStages_ok hr
        exact ⟨t', h', by simp only [hc, q3, q4, hb]; exact q5, hr⟩
theorem drawnK_ok {ops : List Oper} {t : Tm} {h : H} {k : Tm → H → R} {r : NV × H} (hr : ikDrawn C.P call C.ng ops t h k = some r) : ∃ t' h', drawnN C call ops t h = some (t', h') ∧ k t' h' = some r := by
  unfold ikDrawn at hr
  split at hr
  · cases hr
  · rename_i hd
    split at hr
    · cases hr
    · rename_i hb
      obtain ⟨t', h', q1, q2⟩ := dStages_ok hr
      exact ⟨t', h', by simp only [drawnN, hd, hb]; exact q1, q2⟩
theorem regK_ok {ops : List Oper} {draw : Bool} {t : Tm} {h : H} {k : Tm → H → R} {r : NV × H} (hr : ikReg C.P call C.ng ops draw t h k = some r) : ∃ t' h', regionN C call ops draw t h = .norm t' h' ∧ k t' h' = some r := by
  unfold ikReg at hr
  split at hr
  · obtain ⟨t', h', q1, q2⟩ := seqK_ok hr
    exact ⟨t', h', by simp only [regionN, q1], q2⟩
  · split at hr
    · rename_i d r' hc
      split at hr
      · cases hr
      · rename_i hb
        obtain ⟨t1, p1, hr⟩ := putK_some hr
        obtain ⟨t2, p2, hr⟩ := putK_some hr
        exact ⟨t2, h, by simp only [regionN, hc, hb, p1, p2], hr⟩
    · rename_i hc
      obtain ⟨t', h', q1, q2⟩ := drawnK_ok hr
      exact ⟨t', h', by simp only [regionN, hc, q1], q2⟩
theorem flatK_ok : ∀ {l : List (List Oper × Bool)} {t : Tm} {h : H} {k : Tm → H → R} {r : NV × H}, ikFlat C.P C.ng l t h k = some r → ∃ t' h', flatN C l t h = some (t', h') ∧ k t' h' = some r
  | [], t, h, k, r, hr => ⟨t, h, rfl, hr⟩
  | (ops, d) :: l, t, h, k, r, hr => by
    simp only [ikFlat] at hr
    split at hr
    · obtain ⟨t1, h1, q1, hr⟩ := seqK_ok hr
      obtain ⟨t', h', q2, hr⟩ := flatK_ok hr
      exact ⟨t', h', by simp only [flatN, q1]; exact q2, hr⟩
    · obtain ⟨t1, h1, q1, hr⟩ := drawnK_ok hr
      obtain ⟨t', h', q2, hr⟩ := flatK_ok hr
      exact ⟨t', h', by simp only [flatN, q1]; exact q2, hr⟩
end
end Go.Ne
/- The staged interpreter's code against the model's. -/
namespace Go.Ne
open Go Go.RowKit
variable [Sig]
/-! ### How many temporaries there are never changes -/
theorem put_nt {t t' : Tm} {d : Option Tmp} {v : NV} (h : t.put d v = some t') : t'.nt = t.nt := by
  cases d with
  | none => cases h; rfl
  | some d => exact (Tm.get_put h 0).2.1
section
variable {C : Ctx} {call : CallF}
theorem act_nt {ev : Operand → NV} {o : Oper} {t t' : Tm} {h h' : H} (ha : actN C call ev o t h = some (t', h')) : t'.nt = t.nt := by
  obtain ⟨v, hv⟩ := actN_put ha
  exact put_nt hv
theorem seq_nt {ops : List Oper} : ∀ {l : List Oper} {t t' : Tm} {h h' : H}, seqN C call ops l t h = some (t', h') → t'.nt = t.nt
  | [], _, _, _, _, hs => by cases hs; rfl
  | o :: l, t, t', h, h', hs => by
    simp only [seqN] at hs
    split at hs
    · rename_i t1 h1 hst
      refine (seq_nt hs).trans ?_
      unfold stepN at hst
      split at hst
      · cases hst
      · split at hst
        · rename_i hp; cases hst; exact put_nt hp
        · cases hst
      · exact act_nt hst
    · cases hs
theorem quiet_nt {R' : Rg} {h : H} {last : Option Nat} : ∀ {l : List Nat} {t t' : Tm} {x x' : Nat}, quietD C R' h last l t x = some (t', x') → t'.nt = t.nt
  | [], _, _, _, _, hs => by cases hs; rfl
  | i :: l, t, t', x, x', hs => by
    simp only [quietD] at hs
    split at hs
    · cases hs
    · split at hs
      · cases hs
      · split at hs
        · cases hs
        · split at hs
          · cases hs
          · rename_i hp; exact (quiet_nt hs).trans (put_nt hp)
theorem catch_nt {R' : Rg} {need : Option Nat} : ∀ {l : List Nat} {t t' : Tm} {h h' : H} {x x' : Nat}, catchD C R' need l t h x = some (t', h', x') → t'.nt = t.nt
  | [], _, _, _, _, _, _, hs => by cases hs; rfl
  | i :: l, t, t', h, h', x, x', hs => by
    simp only [catchD] at hs
    split at hs
    · cases hs
    · split at hs
      · cases hs
      · split at hs
        · cases hs
        · split at hs
          · cases hs
          · split at hs
            · cases hs
            · rename_i hp; exact (catch_nt hs).trans (put_nt hp)
          · split at hs
            · split at hs
              · cases hs
              · split at hs
                · cases hs
                · rename_i hp; exact (catch_nt hs).trans (put_nt hp)
            · split at hs
              · cases hs
              · split at hs
                · cases hs
                · rename_i hp; exact (catch_nt hs).trans (put_nt hp)
            · cases hs
theorem chain_nt {R' : Rg} {last : Option Nat} {e : Nat} {t t' : Tm} {h h' : H} {x : Nat} (hs : chainD C call R' last e t h x = some (t', h')) : t'.nt = t.nt := by
  unfold chainD at hs
  split at hs
  · cases hs
  · split at hs
    · cases hs
    · split at hs
      · cases hs
      · split at hs
        · cases hs
        · split at hs
          · rename_i hp; cases hs; exact put_nt hp
          · cases hs
        · exact act_nt hs
theorem tail_nt {R' : Rg} {h : H} {last : Option Nat} {late all : List Nat} : ∀ {l : List Nat} {t t' : Tm} {x x' : Nat} {ups : List (Pos × Option NB)}, tailD C R' h last late all l t x = some (t', x', ups) → t'.nt = t.nt
  | [], _, _, _, _, _, hs => by cases hs; rfl
  | j :: l, t, t', x, x', ups, hs => by
    simp only [tailD] at hs
    split at hs
    · cases hs
    · split at hs
      · cases hs
      · split at hs
        · cases hs
        · split at hs
          · cases hs
          · split at hs
            · cases hs
            · split at hs
              · split at hs
                · split at hs
                  · cases hs
                  · rename_i hp
                    split at hs
                    · cases hs
                    · rename_i hr
                      split at hs
                      · cases hs
                      · cases hs
                        exact (tail_nt hr).trans (put_nt hp)
                · cases hs
              · cases hs
theorem stages_nt {R' : Rg} : ∀ {l : List Stage} {last : Option Nat} {reads : List Nat} {t t' : Tm} {h h' : H} {x : Nat}, stagesD C call R' l last reads t h x = some (t', h') → t'.nt = t.nt
  | [], _, _, _, _, _, _, _, hs => by simp only [stagesD, reduceCtorEq] at hs
  | s :: l, last, reads, t, t', h, h', x, hs => by
    simp only [stagesD] at hs
    split at hs
    · cases hs
    · rename_i q1
      split at hs
      · cases hs
      · split at hs
        · split at hs
          · cases hs
          · rename_i q2
            split at hs
            · cases hs
            · rename_i q3
              split at hs
              · cases hs
                exact ((tail_nt q3).trans (catch_nt q2)).trans (quiet_nt q1)
              · cases hs
        · split at hs
          · cases hs
          · rename_i q2
            split at hs
            · cases hs
            · rename_i q3
              split at hs
              · cases hs
              · exact (((stages_nt hs).trans (chain_nt q3)).trans (catch_nt q2)).trans (quiet_nt q1)
theorem reg_nt {ops : List Oper} {draw : Bool} {t t' : Tm} {h h' : H} (hs : regionN C call ops draw t h = .norm t' h') : t'.nt = t.nt := by
  unfold regionN at hs
  split at hs
  · split at hs
    · rename_i q; cases hs; exact seq_nt q
    · cases hs
  · split at hs
    · split at hs
      · cases hs
      · split at hs
        · rename_i p1
          split at hs
          · rename_i p2; cases hs; exact (put_nt p2).trans (put_nt p1)
          · cases hs
        · cases hs
    · split at hs
      · rename_i q
        cases hs
        unfold drawnN at q
        split at q
        · cases q
        · split at q
          · cases q
          · exact stages_nt q
      · cases hs
end

/-! ### Joins -/
theorem lenL_len {α : Type} (l : List α) : lenL l = l.length := lenL_eq l
theorem getsT_len (t : Tm) : ∀ (ds : List Nat), (getsT t ds).length = ds.length
  | [] => rfl
  | d :: ds => by simp [getsT, getsT_len t ds]
theorem appN_lam : ∀ (n : Nat) (f : List NV → H → R) (vs : List NV), vs.length = n → appN n (lamN n f) vs = f vs
  | 0, f, vs, h => by
    cases vs with
    | nil => rfl
    | cons v vs => simp at h
  | n + 1, f, vs, h => by
    cases vs with
    | nil => simp at h
    | cons v vs => exact appN_lam n (fun l => f (v :: l)) vs (by simpa using h)
theorem appN_bot : ∀ (n : Nat) (vs : List NV) (h : H), appN n (botN n) vs h = none
  | 0, _, _ => rfl
  | n + 1, vs, h => by
    cases vs with
    | nil => rfl
    | cons v vs => exact appN_bot n vs h
theorem joinK_eq (nt : Nat) (ds : List Nat) (kn : Tm → H → R) (body : (Tm → H → R) → R) : joinK nt ds kn body = body (fun t h => kn ⟨nt, putsT nt ds (getsT t ds) .e⟩ h) := by
  unfold joinK joinC
  show (body fun t h => appN (lenL ds) (lamN (lenL ds) fun vs h => kn ⟨nt, putsT nt ds vs .e⟩ h) (getsT t ds) h) = _
  congr 1
  funext t h
  rw [appN_lam _ _ _ (by rw [getsT_len, lenL_len])]
theorem loopK_zero (nt : Nat) (ds : List Nat) (body : (Tm → H → R) → Tm → H → R) (t : Tm) (h : H) : loopK 0 nt ds body t h = none := appN_bot _ _ _
theorem loopK_succ (N nt : Nat) (ds : List Nat) (body : (Tm → H → R) → Tm → H → R) (t : Tm) (h : H) : loopK (N + 1) nt ds body t h = body (loopK N nt ds body) ⟨nt, putsT nt ds (getsT t ds) .e⟩ h := by
  have : loopK (N + 1) nt ds body t h = appN (lenL ds) (lamN (lenL ds) fun vs h => body (loopK N nt ds body) ⟨nt, putsT nt ds vs .e⟩ h) (getsT t ds) h := rfl
  rw [this, appN_lam _ _ _ (by rw [getsT_len, lenL_len])]
theorem putsT_get (nt : Nat) : ∀ (ds : List Nat) (vs : List NV) (m : PT NV) (i : Nat), (putsT nt ds vs m).get (key i) = m.get (key i) ∨ ∃ (j : Nat) (v : NV), ds[j]? = some i ∧ vs[j]? = some v ∧ (putsT nt ds vs m).get (key i) = some v
  | [], vs, m, i => .inl rfl
  | d :: ds, [], m, i => .inl rfl
  | d :: ds, v :: vs, m, i => by
    simp only [putsT]
    rcases putsT_get nt ds vs (PT.set (some v) (key d) m) i with h | ⟨j, u, h1, h2, h3⟩
    · rw [h, PT.get_set]
      by_cases e : key d = key i
      · rw [if_pos e]
        have := key_inj e
        subst this
        exact .inr ⟨0, v, rfl, rfl, rfl⟩
      · rw [if_neg e]; exact .inl rfl
    · exact .inr ⟨j + 1, u, by simpa using h1, by simpa using h2, h3⟩
theorem getsT_get (t : Tm) : ∀ (ds : List Nat) (j : Nat) (i : Nat), ds[j]? = some i → (getsT t ds)[j]? = some (t.get i)
  | [], j, i, h => by simp at h
  | d :: ds, 0, i, h => by simp at h; subst h; rfl
  | d :: ds, j + 1, i, h => by simpa [getsT] using getsT_get t ds j i (by simpa using h)
/-- What is forgotten does no harm. -/
theorem TR.puts {ρ : Rho} {t : Tm} {tmps : Array Value} (ht : TR ρ t tmps) {nt : Nat} (hn : t.nt = nt) (ds : List Nat) (vs : List NV) (hv : ∀ (j i : Nat) (v : NV), ds[j]? = some i → vs[j]? = some v → VR ρ v (tmps.getD i undef)) : TR ρ ⟨nt, putsT nt ds vs .e⟩ tmps := by
  refine ⟨by rw [ht.nt, hn], fun i => ?_⟩
  unfold Tm.get
  simp only
  rcases putsT_get nt ds vs .e i with h | ⟨j, v, h1, h2, h3⟩
  · rw [h, PT.get_e]; exact .bad _
  · rw [h3]; exact hv j i v h1 h2
theorem TR.gets {ρ : Rho} {t : Tm} {tmps : Array Value} (ht : TR ρ t tmps) {nt : Nat} (hn : t.nt = nt) (ds : List Nat) : TR ρ ⟨nt, putsT nt ds (getsT t ds) .e⟩ tmps := by
  refine ht.puts hn ds _ fun j i v h1 h2 => ?_
  rw [getsT_get t ds j i h1] at h2
  cases h2
  exact ht.at_ i
theorem joinV_get : ∀ (la lb : List NV) (j : Nat) (v : NV), (joinV la lb)[j]? = some v → v = .bad ∨ (la[j]? = some v ∧ lb[j]? = some v)
  | [], lb, j, v, h => by simp [joinV] at h
  | a :: la, [], j, v, h => by simp [joinV] at h
  | a :: la, b :: lb, 0, v, h => by
    simp only [joinV, List.getElem?_cons_zero, Option.some.injEq] at h
    split at h
    · rename_i hb
      have := beqV_eq 20 hb
      subst this; subst h
      exact .inr ⟨rfl, rfl⟩
    · exact .inl h.symm
  | a :: la, b :: lb, j + 1, v, h => by
    simp only [joinV, List.getElem?_cons_succ] at h
    simpa using joinV_get la lb j v h
theorem joinV_len : ∀ (la lb : List NV), la.length = lb.length → (joinV la lb).length = la.length
  | [], _, _ => rfl
  | a :: la, [], h => by simp at h
  | a :: la, b :: lb, h => by simp [joinV, joinV_len la lb (by simpa using h)]

section
variable {C : Ctx} {w0 : World}
theorem flipK_ok (hm : C.P.follows .mixedOrders = true) {x y : Code} {nt : Nat} {ds : List Nat} {ρ : Rho} {h : H} {w : World} {t : Tm} {a : Act} {Q : Exit → Act → World → Prop} {kn : Tm → H → R} {res : NV × H} (hnt : t.nt = nt) (r : HR w0 C.ng ρ h w) (ht : TR ρ t a.tmps) (hs : flipK C.P C.ng nt ds x y t h kn = some res)
    (hQ : ∀ t' h', t'.nt = nt → kn t' h' = some res → Ends C w0 ρ h w a.defers t' h' (Q .normal)) : x.wp C.P Q a w ∧ y.wp C.P Q a w := by
  unfold flipK at hs
  split at hs
  · cases hs
  · rename_i l hl
    split at hs
    · cases hs
    · rename_i m hmm
      unfold flipC flipJ at hs
      split at hs
      · cases hs
      · rename_i hov
        have e0 : ∀ p, (overH h).rd p = h.rd p := by
          intro p
          simp only [H.rd, overH, hov, assoc]
        obtain ⟨r0, x0⟩ := r.forget (Ext.refl ρ h w) (h' := overH h) (fun p b hp => by rw [← e0]; exact hp) rfl
        split at hs
        · rename_i la ha hfa
          split at hs
          · rename_i lb hb hfb
            split at hs
            · cases hs
            · rename_i hnext
              have hnext := Pos.beq_iff.1 hnext
              split at hs
              · cases hs
              · rename_i oa hoa
                split at hs
                · cases hs
                · rename_i ob hob
                  obtain ⟨ta, ha', fa1, fa2⟩ := flatK_ok hfa
                  obtain ⟨tb, hb', fb1, fb2⟩ := flatK_ok hfb
                  unfold retC at fa2 fb2
                  cases fa2
                  cases fb2
                  obtain ⟨ka1, ka2, ka3⟩ := flat_keep fa1
                  obtain ⟨kb1, kb2, kb3⟩ := flat_keep fb1
                  have hba := (ka3 [] rfl).1
                  have hbb := (kb3 [] rfl).1
                  simp only at hs
                  rw [appN_lam _ _ _ (by rw [joinV_len _ _ (by rw [getsT_len, getsT_len]), getsT_len, lenL_len])] at hs
                  have rd : ∀ p b, (⟨ha.next, joinH ha hb h.base (appL (keysOf oa) (keysOf ob)), none⟩ : H).rd p = some b → ha.rd p = some b ∧ hb.rd p = some b := by
                    intro p b hp
                    have hp : (joinH ha hb h.base (appL (keysOf oa) (keysOf ob))).get p = some b := hp
                    rcases joinH_get ha hb h.base (appL (keysOf oa) (keysOf ob)) p with ⟨_, h2⟩ | ⟨h1, h2⟩
                    · exact h2 b hp
                    · rw [appL_eq, List.mem_append, not_or] at h1
                      rw [h2] at hp
                      refine ⟨?_, ?_⟩
                      · simp only [H.rd, hoa, keysOf_none h1.1, hba]; exact hp
                      · simp only [H.rd, hob, keysOf_none h1.2, hbb]; exact hp
                  have hJ := hQ _ _ rfl hs
                  refine ⟨flat_ok hm x hl Q r0 ht fa1 fun a' w' ρ' q1 q2 q3 q4 => ?_, flat_ok hm y hmm Q r0 ht fb1 fun a' w' ρ' q1 q2 q3 q4 => ?_⟩
                  · obtain ⟨s1, s2⟩ := q1.forget (x0.trans q2) (h' := ⟨ha.next, joinH ha hb h.base (appL (keysOf oa) (keysOf ob)), none⟩) (fun p b hp => (rd p b hp).1) rfl
                    refine hJ a' w' ρ' s1 s2 (q3.puts (by rw [ka2, hnt]) ds _ fun j i v g1 g2 => ?_) q4
                    rcases joinV_get _ _ j v g2 with rfl | ⟨g3, _⟩
                    · exact .bad _
                    · rw [getsT_get ta ds j i g1] at g3; cases g3; exact q3.at_ i
                  · obtain ⟨s1, s2⟩ := q1.forget (x0.trans q2) (h' := ⟨ha.next, joinH ha hb h.base (appL (keysOf oa) (keysOf ob)), none⟩) (fun p b hp => (rd p b hp).2) hnext
                    refine hJ a' w' ρ' s1 s2 (q3.puts (by rw [kb2, hnt]) ds _ fun j i v g1 g2 => ?_) q4
                    rcases joinV_get _ _ j v g2 with rfl | ⟨_, g3⟩
                    · exact .bad _
                    · rw [getsT_get tb ds j i g1] at g3; cases g3; exact q3.at_ i
          · cases hs
        · cases hs

/-- What a continuation says of what comes behind. -/
def KOK (C : Ctx) (w0 : World) (nt : Nat) (res : NV × H) (ρ : Rho) (h : H) (w : World) (dd : List Deferred) (k : Tm → H → R) (q : Act → World → Prop) : Prop :=
  ∀ t' h', t'.nt = nt → k t' h' = some res → Ends C w0 ρ h w dd t' h' q
theorem KOK.trans {nt : Nat} {res : NV × H} {ρ ρ1 : Rho} {h h1 : H} {w w1 : World} {dd : List Deferred} {k : Tm → H → R} {q : Act → World → Prop} (hk : KOK C w0 nt res ρ h w dd k q) (x : Ext ρ h w ρ1 h1 w1) : KOK C w0 nt res ρ1 h1 w1 dd k q :=
  fun t' h' hn hr => (hk t' h' hn hr).trans x
theorem KOK.join {nt : Nat} {res : NV × H} {ρ : Rho} {h : H} {w : World} {dd : List Deferred} {k : Tm → H → R} {q : Act → World → Prop} (hk : KOK C w0 nt res ρ h w dd k q) (ds : List Nat) : KOK C w0 nt res ρ h w dd (fun t h => k ⟨nt, putsT nt ds (getsT t ds) .e⟩ h) q :=
  fun _ h' hn hr a' w' ρ' q1 q2 q3 q4 => hk _ h' rfl hr a' w' ρ' q1 q2 (q3.gets hn ds) q4

theorem ikC_ok (hm : C.P.follows .mixedOrders = true) {call : CallF} (hcall : CallOK C w0 call) {X : Kx} (hX1 : X.P = C.P) (hX2 : X.ng = C.ng) {kr : Tm → H → R} {res : NV × H} :
    ∀ (c : Code) (m : Nat) (ex : List (Nat × Nat)) (tv : Bool) (ρ : Rho) (h : H) (w : World) (t : Tm) (a : Act) (Q : Exit → Act → World → Prop) (kn : Tm → H → R) (E : List (Nat × (Tm → H → R))), t.nt = X.nt → HR w0 C.ng ρ h w → TR ρ t a.tmps →
      ikC X call kr c m ex tv t h kn E = some res → KOK C w0 X.nt res ρ h w a.defers kn (Q .normal) → (∀ id k, findE id E = some k → KOK C w0 X.nt res ρ h w a.defers k (Q (.exit id))) → KOK C w0 X.nt res ρ h w a.defers kr (Q .ret) → c.wp C.P Q a w := by
  intro c
  induction c with
  | skip => intro m ex tv ρ h w t a Q kn E hn r ht hr h1 h2 h3; exact wp_skip (h1 t h hn hr a w ρ r (Ext.refl _ _ _) ht rfl)
  | label l => intro m ex tv ρ h w t a Q kn E hn r ht hr h1 h2 h3; exact wp_label (h1 t h hn hr a w ρ r (Ext.refl _ _ _) ht rfl)
  | region id ops draw =>
    intro m ex tv ρ h w t a Q kn E hn r ht hr h1 h2 h3
    simp only [ikC, hX1, hX2] at hr
    obtain ⟨t', h', q1, q2⟩ := regK_ok hr
    exact region_ok hcall hm r ht q1 (h1 t' h' ((reg_nt q1).trans hn) q2)
  | seq x y ihx ihy =>
    intro m ex tv ρ h w t a Q kn E hn r ht hr h1 h2 h3
    simp only [ikC] at hr
    refine wp_seq (ihx _ _ _ ρ h w t a _ _ E hn r ht hr (fun t' h' hn' hr' a' w' ρ' q1 q2 q3 q4 => ?_) h2 h3)
    refine ihy _ _ _ ρ' h' w' t' a' Q kn E hn' q1 q3 hr' ?_ ?_ ?_
    · rw [q4]; exact h1.trans q2
    · intro id k hk; rw [q4]; exact (h2 id k hk).trans q2
    · rw [q4]; exact h3.trans q2
  | cond x y z ihy ihz =>
    intro m ex tv ρ h w t a Q kn E hn r ht hr h1 h2 h3
    have hev := evT_ok r ht x
    have branch : ∀ {A B : R}, condK (evT C.ng t x) A B = some res → (a.eval x = .bool true ∧ A = some res) ∨ (a.eval x = .bool false ∧ B = some res) := by
      intro A B hc
      obtain ⟨b, hb, hc⟩ := onBool_some hc
      rw [hb] at hev
      cases b with
      | true => exact .inl ⟨hev.bool_inv, hc⟩
      | false => exact .inr ⟨hev.bool_inv, hc⟩
    simp only [ikC, hX2] at hr
    split at hr
    · unfold anyK at hr
      split at hr
      · rename_i hx
        rw [hx] at hev
        obtain ⟨bb, hbb⟩ : ∃ bb, a.eval x = .bool bb := by
          generalize a.eval x = u at hev
          cases hev
          exact ⟨_, rfl⟩
        rw [hX1] at hr
        obtain ⟨k1, k2⟩ := flipK_ok hm hn r ht hr h1
        cases bb with
        | true => exact wp_cond_true hbb k1
        | false => exact wp_cond_false hbb k2
      · cases hr
    · split at hr
      · rw [joinK_eq] at hr
        rcases branch hr with ⟨hb, hr⟩ | ⟨hb, hr⟩
        · exact wp_cond_true hb (ihy _ _ _ ρ h w t a Q _ E hn r ht hr (h1.join _) h2 h3)
        · exact wp_cond_false hb (ihz _ _ _ ρ h w t a Q _ E hn r ht hr (h1.join _) h2 h3)
      · rcases branch hr with ⟨hb, hr⟩ | ⟨hb, hr⟩
        · exact wp_cond_true hb (ihy _ _ _ ρ h w t a Q _ E hn r ht hr h1 h2 h3)
        · exact wp_cond_false hb (ihz _ _ _ ρ h w t a Q _ E hn r ht hr h1 h2 h3)
  | block id b ih =>
    intro m ex tv ρ h w t a Q kn E hn r ht hr h1 h2 h3
    have go : ∀ (tv' : Bool) (J : Tm → H → R), KOK C w0 X.nt res ρ h w a.defers J (Q .normal) → ikC X call kr b m ((id, m) :: ex) tv' t h J ((id, J) :: E) = some res → b.wp C.P (Exit.inBlock id Q) a w := by
      intro tv' J hJ hr
      refine ih _ _ _ ρ h w t a _ J ((id, J) :: E) hn r ht hr hJ ?_ h3
      intro id' k hk
      simp only [findE] at hk
      split at hk
      · rename_i hb
        cases hk
        have := Nat.eq_of_beq_eq_true hb
        subst this
        intro t' h' hn' hr' a' w' ρ' q1 q2 q3 q4
        simp only [Exit.inBlock, if_true]
        exact hJ t' h' hn' hr' a' w' ρ' q1 q2 q3 q4
      · rename_i hb
        intro t' h' hn' hr' a' w' ρ' q1 q2 q3 q4
        simp only [Exit.inBlock]
        rw [if_neg (fun e => by subst e; simp at hb)]
        exact h2 id' k hk t' h' hn' hr' a' w' ρ' q1 q2 q3 q4
    simp only [ikC] at hr
    refine wp_block ?_
    split at hr
    · rw [joinK_eq] at hr
      exact go _ _ (h1.join _) hr
    · exact go _ _ h1 hr
  | loop b ih =>
    intro m ex tv ρ h w t a Q kn E hn r ht hr h1 h2 h3
    simp only [ikC] at hr
    have key : ∀ (N : Nat) (ρ : Rho) (h : H) (w : World) (t : Tm) (a : Act), t.nt = X.nt → HR w0 C.ng ρ h w → TR ρ t a.tmps →
        loopK N X.nt (bitsOf (lin X.lr b 0 ex) X.nt 0) (fun self t h => ikC X call kr b (lin X.lr b 0 ex) ex true t h self E) t h = some res →
        (∀ id k, findE id E = some k → KOK C w0 X.nt res ρ h w a.defers k (Q (.exit id))) → KOK C w0 X.nt res ρ h w a.defers kr (Q .ret) → LW C.P b Q a w := by
      intro N
      induction N with
      | zero => intro ρ h w t a hn r ht hr; rw [loopK_zero] at hr; cases hr
      | succ N ihN =>
        intro ρ h w t a hn r ht hr h2 h3
        rw [loopK_succ] at hr
        refine LW.round (ih _ _ _ ρ h w _ a _ _ E rfl r (ht.gets hn _) hr ?_ ?_ ?_)
        · intro t' h' hn' hr' a' w' ρ' q1 q2 q3 q4
          refine ihN ρ' h' w' t' a' hn' q1 q3 hr' ?_ ?_
          · intro id k hk; rw [q4]; exact (h2 id k hk).trans q2
          · rw [q4]; exact h3.trans q2
        · exact h2
        · exact h3
    exact (key _ ρ h w t a hn r ht hr h2 h3).wp
  | exit id =>
    intro m ex tv ρ h w t a Q kn E hn r ht hr h1 h2 h3
    simp only [ikC] at hr
    split at hr
    · rename_i k hk; exact wp_exit (h2 id k hk t h hn hr a w ρ r (Ext.refl _ _ _) ht rfl)
    · cases hr
  | ret => intro m ex tv ρ h w t a Q kn E hn r ht hr h1 h2 h3; exact wp_ret (h3 t h hn hr a w ρ r (Ext.refl _ _ _) ht rfl)
  | scope b ih =>
    intro m ex tv ρ h w t a Q kn E hn r ht hr h1 h2 h3
    simp only [ikC] at hr
    exact SW.wp (SW.part (ih _ _ _ ρ h w t a (scopeQ C.P b Q) kn E hn r ht hr h1 h2 h3))
  | goto l => intro m ex tv ρ h w t a Q kn E hn r ht hr; simp only [ikC, reduceCtorEq] at hr
  | refuse s => intro m ex tv ρ h w t a Q kn E hn r ht hr; simp only [ikC, reduceCtorEq] at hr
  | rangeFunc f p x y _ _ => intro m ex tv ρ h w t a Q kn E hn r ht hr; simp only [ikC, reduceCtorEq] at hr
end
end Go.Ne
/- Functions, and calls by a table of functions. -/
namespace Go.Ne
open Go Go.RowKit
variable [Sig]
/-- A function of abstract values, its calls and its rounds given. -/
abbrev SF := CallF → Nat → List NV → H → R
/-- What an answer says of a call in the model. -/
def Says (C : Ctx) (w0 : World) (g : FuncId) (args : List NV) (h : H) (v : NV) (h' : H) : Prop :=
  ∀ (ρ : Rho) (w : World) (args' : List Value), HR w0 C.ng ρ h w → VRL ρ args args' →
    (callFunc g args'.toArray).run C.P w = .ok (.enter g args'.toArray) w ∧ Calls C.P g args'.toArray w (fun e w' => ∃ v' ρ', e = .returned v' ∧ HR w0 C.ng ρ' h' w' ∧ Ext ρ h w ρ' h' w' ∧ VR ρ' v v')
    ∨ ∃ v', (callFunc g args'.toArray).run C.P w = .ok (.value v') w ∧ h' = h ∧ VR ρ v v'
def SOK (C : Ctx) (w0 : World) (g : FuncId) (s : SF) : Prop := ∀ (call : CallF) (N : Nat), CallOK C w0 call → ∀ (args : List NV) (h : H) (v : NV) (h' : H), s call N args h = some (v, h') → Says C w0 g args h v h'

section
variable {C : Ctx} {w0 : World}
theorem un_some {l : List NV} {x : R} {r : NV × H} (h : un l x = some r) : l = [] ∧ x = some r := by
  cases l with
  | nil => exact ⟨rfl, h⟩
  | cons v l => cases h
theorem unc_some : ∀ {n : Nat} {l : List NV} {k : List NV → R} {r : NV × H}, unc n l k = some r → k l = some r
  | 0, l, k, r, h => by
    obtain ⟨rfl, h⟩ := un_some h
    exact h
  | n + 1, l, k, r, h => by
    cases l with
    | nil => cases h
    | cons v l => exact unc_some (k := fun vs => k (v :: vs)) h
theorem resK_some {t : Tm} {h : H} : ∀ {l : List ResultVar} {k : List NV → R} {r : NV × H}, resK C.P t h l k = some r → ∃ vs, resN C.P t h l = some vs ∧ k vs = some r
  | [], k, r, hr => ⟨[], rfl, hr⟩
  | x :: l, k, r, hr => by
    simp only [resK] at hr
    split at hr
    · rename_i i
      obtain ⟨vs, h1, h2⟩ := resK_some hr
      exact ⟨_, by simp only [resN, h1], h2⟩
    · rename_i b u
      split at hr
      · rename_i ti hti
        obtain ⟨v, h1, h2⟩ := bK_some hr
        obtain ⟨vs, h3, h4⟩ := resK_some h2
        refine ⟨v :: vs, ?_, h4⟩
        obtain ⟨p, off, hp, h1⟩ := onPtr_some h1
        obtain ⟨nb, e1, h1⟩ := optRec_some h1
        rw [rdF_eq] at e1
        have h5 : loadN h.rd ti p off = some v := by
          simp only [loadN, e1]
          cases hagg : ti.agg with
          | true =>
            rw [hagg] at h1
            obtain ⟨l2, e2, h1⟩ := optRec_some h1
            rw [cellsF_eq] at e2
            simp only [e2]
            exact h1
          | false =>
            rw [hagg] at h1
            have h1 : cellF nb off = some v := h1
            rw [cellF_eq] at h1
            exact h1
        simp only [resN, hp, hti, h3, h5]
      · cases hr
theorem ikF_ok (hm : C.P.follows .mixedOrders = true) {g : FuncId} {fn : Func} {c : Code} (hfn : C.P.funcs[g]? = some fn) (hname : (fn.name == "runtime.NumGoroutine") = false) (hb : fn.body = some c) : SOK C w0 g (ikF C.P C.ng fn c) := by
  intro call N hcall args h v h' hr ρ w args' r hv
  unfold ikF at hr
  have hr := unc_some hr
  try simp only at hr
  split at hr
  · cases hr
  · rename_i hle
    have hle : args.length ≤ fn.ntmps := by rw [← lenL_eq]; exact Nat.le_of_ble_eq_true hle
    refine .inl ⟨Go.MuLone.run_callFunc_enter hfn hname hb _ _, ?_⟩
    refine calls_of_wp hfn hb ?_
    have hlen := hv.length
    have ht : TR ρ ⟨fn.ntmps, args0 args 0 .e⟩ (args'.toArray ++ Array.replicate (fn.ntmps - args'.toArray.size) undef) := by
      refine ⟨by simp; omega, fun i => ?_⟩
      unfold Tm.get
      rw [args0_get]
      by_cases hi : i < args.length
      · rw [if_pos (by omega)]
        have h1 : args[i - 0]? = some args[i] := by simp [hi]
        rw [h1]
        simp only
        rw [Array.getD_eq_getD_getElem?, Array.getElem?_append_left (by simp; omega)]
        obtain ⟨u, e1, e2⟩ := hv.get (i := i) (v := args[i]) (by simp [hi])
        simp only [List.getElem?_toArray, e1, Option.getD_some]
        exact e2
      · rw [if_neg (by omega), PT.get_e]
        exact .bad _
    have fin : KOK C w0 fn.ntmps (v, h') ρ h w [] (fun t h => resK C.P t h fn.results.toList fun l => retC (tupN l) h) (fun a' w' => a'.defers = [] ∧ ∃ u, (results fn a'.tmps).run C.P w' = .ok u w' ∧ ∃ v' ρ', Ending.returned u = .returned v' ∧ HR w0 C.ng ρ' h' w' ∧ Ext ρ h w ρ' h' w' ∧ VR ρ' v v') := by
      intro t1 h1 _ hk a' w' ρ' q1 q2 q3 q4
      obtain ⟨l, hl, hret⟩ := resK_some hk
      unfold retC at hret
      cases hret
      obtain ⟨v', e1, e2⟩ := res_ok q1 q3 hl
      exact ⟨q4, v', e1, v', ρ', rfl, q1, q2, e2⟩
    exact ikC_ok hm hcall (X := ⟨C.P, C.ng, N, fn.ntmps, resM fn.results.toList 0, coinsC C.P c 0⟩) rfl rfl c _ _ _ ρ h w _ { tmps := args'.toArray ++ Array.replicate (fn.ntmps - args'.toArray.size) undef, defers := [] } _ _ [] rfl r ht hr fin (fun id k hk => by simp only [findE, reduceCtorEq] at hk) fin
theorem ikB_ok (hm : C.P.follows .mixedOrders = true) {g : FuncId} {fn : Func} (hfn : C.P.funcs[g]? = some fn) (hname : (fn.name == "runtime.NumGoroutine") = false) {s : SF} (hs : ikB C.P C.ng fn = s) : SOK C w0 g s := by
  subst hs
  cases hb : fn.body with
  | none =>
    intro call N hcall args h v h' hr
    unfold ikB at hr
    rw [hb] at hr
    cases hr
  | some c =>
    have : ikB C.P C.ng fn = ikF C.P C.ng fn c := by funext call N l h; unfold ikB; rw [hb]
    rw [this]
    exact ikF_ok hm hfn hname hb

/-- A function without a body, answered by the model itself. -/
theorem ext_ok {g : FuncId} {o : List NV → Option NV} (ho : ∀ args v, o args = some v → ∀ (ρ : Rho) (w : World) (args' : List Value), VRL ρ args args' → ∃ v', (callFunc g args'.toArray).run C.P w = .ok (.value v') w ∧ VR ρ v v') :
    SOK C w0 g (fun _ _ l h => match o l with | some v => some (v, h) | none => none) := by
  intro call N hcall args h v h' hr ρ w args' r hv
  simp only at hr
  split at hr
  · rename_i u hu
    cases hr
    obtain ⟨v', h1, h2⟩ := ho args _ hu ρ w args' hv
    exact .inr ⟨v', h1, rfl, h2⟩
  · cases hr
/-- What is known of some arguments, ahead of the function itself. -/
noncomputable def orcS (o : List NV → Option NV) (s : SF) : SF := fun call N l h => match o l with
  | some v => some (v, h)
  | none => s call N l h
theorem orc_ok {g : FuncId} {o : List NV → Option NV} {s : SF} (ho : ∀ args v, o args = some v → ∀ h, Says C w0 g args h v h) (hs : SOK C w0 g s) : SOK C w0 g (orcS o s) := by
  intro call N hcall args h v h' hr
  unfold orcS at hr
  split at hr
  · rename_i u hu
    cases hr
    exact ho args _ hu h
  · exact hs call N hcall args h v h' hr

/-! ### The table -/
noncomputable def mkTab : List (Nat × SF) → PT SF
  | [] => .e
  | (g, s) :: l => setF (some s) (key g) (mkTab l)
theorem mkTab_get : ∀ (l : List (Nat × SF)) (g : Nat) (s : SF), (mkTab l).get (key g) = some s → (g, s) ∈ l
  | [], g, s, h => by simp only [mkTab, PT.get_e, reduceCtorEq] at h
  | (g', s') :: l, g, s, h => by
    simp only [mkTab, setF_eq] at h
    rw [PT.get_set] at h
    by_cases e : key g' = key g
    · rw [if_pos e] at h
      cases h
      have := key_inj e
      subst this
      simp
    · rw [if_neg e] at h
      exact List.mem_cons_of_mem _ (mkTab_get l g s h)
/-- Calls by a table: so deep. -/
noncomputable def callS (tab : PT SF) (N : Nat) : Nat → CallF
  | 0 => fun _ _ _ => none
  | f + 1 => fun g l h => Option.rec (motive := fun _ => R) none (fun s => s (callS tab N f) N l h) (getF tab (key g))
theorem callS_ok {tab : PT SF} (ht : ∀ (g : Nat) (s : SF), tab.get (key g) = some s → SOK C w0 g s) (N : Nat) : ∀ f, CallOK C w0 (callS tab N f)
  | 0 => fun ρ h w g args args' v h' _ _ hc => by simp only [callS, reduceCtorEq] at hc
  | f + 1 => fun ρ h w g args args' v h' r hv hc => by
    obtain ⟨s, hs, hc⟩ := optRec_some hc
    rw [getF_eq] at hs
    exact ht g s hs _ N (callS_ok ht N f) args h v h' hc ρ w args' r hv
end
end Go.Ne
