/- WatNames (seat wat): whatever the numbers, an id of a function that is called is the function's place, wherever it stands: the law returns true. -/
import Derived.Test.YtglmbknbbfmhfaaGreatDoorW5
import Derived.Test.YtglmbknbbfmhfaaGreatDoorWN0
import Derived.Test.YtglmbknbbfmhfaaGreatDoorWN1
import Derived.Test.YtglmbknbbfmhfaaGreatDoorWN2
import Derived.Test.YtglmbknbbfmhfaaGreatDoorWN3
set_option maxRecDepth 100000
set_option linter.unusedVariables false
namespace Go.Proofs.YtglmbknbbfmhfaaGreatDoor.watNames
open Go Go.Ne Go.ChangeShapes Go.WideShapes Go.ChangeAt Go.RowKit

/-! ### The numbers are cut to three bits, and one -/
theorem and_mod (x : Int) (k : Nat) (hk : k ≤ 64) : (BitVec.ofInt 64 x &&& BitVec.ofInt 64 (2 ^ k - 1 : Nat)).toNat = (x % (2 ^ k : Nat)).toNat := by
  rw [BitVec.toNat_and]
  have h1 : (BitVec.ofInt 64 ((2 ^ k - 1 : Nat) : Int)).toNat = 2 ^ k - 1 := by
    rw [BitVec.toNat_ofInt]
    have : (2 ^ k : Nat) ≤ 2 ^ 64 := Nat.pow_le_pow_right (by decide) hk
    have h0 : 0 < (2 ^ k : Nat) := Nat.pow_pos (by decide)
    omega
  rw [h1, Nat.and_two_pow_sub_one_eq_mod, BitVec.toNat_ofInt]
  have hd : ((2 ^ k : Nat) : Int) ∣ ((2 ^ 64 : Nat) : Int) := by
    exact_mod_cast Nat.pow_dvd_pow 2 hk
  have h2 : (x % ((2 ^ 64 : Nat) : Int)) % ((2 ^ k : Nat) : Int) = x % ((2 ^ k : Nat) : Int) := Int.emod_emod_of_dvd x hd
  have h3 : 0 ≤ x % ((2 ^ 64 : Nat) : Int) := Int.emod_nonneg _ (by decide)
  have h4 : 0 ≤ x % ((2 ^ k : Nat) : Int) := Int.emod_nonneg _ (by have : 0 < (2 ^ k : Nat) := Nat.pow_pos (by decide); omega)
  apply Int.ofNat_inj.1
  rw [Int.toNat_of_nonneg h4, ← h2, Int.natCast_emod, Int.toNat_of_nonneg h3]
theorem and_i64 (x : Int) (k : Nat) (hk : k ≤ 64) : binO .and (.int .i64 x) (.int .i64 (.ofNat (2 ^ k - 1))) = binO .and (.int .i64 (.ofNat (x % (2 ^ k : Nat)).toNat)) (.int .i64 (.ofNat (2 ^ k - 1))) := by
  have h4 : 0 ≤ x % ((2 ^ k : Nat) : Int) := Int.emod_nonneg _ (by have : 0 < (2 ^ k : Nat) := Nat.pow_pos (by decide); omega)
  show some (forceI (IntKind.i64.wrap ((BitVec.ofInt 64 x &&& BitVec.ofInt 64 ((2 ^ k - 1 : Nat) : Int)).toNat : Nat)) fun n => NV.int .i64 n) =
    some (forceI (IntKind.i64.wrap ((BitVec.ofInt 64 (((x % (2 ^ k : Nat)).toNat : Nat) : Int) &&& BitVec.ofInt 64 ((2 ^ k - 1 : Nat) : Int)).toNat : Nat)) fun n => NV.int .i64 n)
  rw [and_mod x k hk, and_mod _ k hk, Int.toNat_of_nonneg h4, Int.emod_emod_of_dvd x (Int.dvd_refl _), Int.toNat_of_nonneg h4]
theorem and7 (x : Int) : binO .and (.int .i64 x) (.int .i64 (.ofNat 7)) = binO .and (.int .i64 (.ofNat (x % 8).toNat)) (.int .i64 (.ofNat 7)) := and_i64 x 3 (by decide)
theorem and1 (x : Int) : binO .and (.int .i64 x) (.int .i64 (.ofNat 1)) = binO .and (.int .i64 (.ofNat (x % 2).toNat)) (.int .i64 (.ofNat 1)) := and_i64 x 1 (by decide)
theorem cut (call : CallF) (N : Nat) (h : H) (x y z : Int) : S5 call N [.int .i64 x, .int .i64 y, .int .i64 z] h = S5 call N [.int .i64 (.ofNat (x % 8).toNat), .int .i64 (.ofNat (y % 8).toNat), .int .i64 (.ofNat (z % 2).toNat)] h := by
  unfold S5
  simp only [uc_c]
  rw [and7 x, and7 y, and1 z]
theorem t5 : getF tab3 (key 5) = some S5 := by kernel_rfl
theorem call5 (l : List NV) (h : H) : callS tab3 100000 60 5 l h = S5 (callS tab3 100000 59) 100000 l h := by
  show Option.rec (motive := fun _ => R) none (fun s => s (callS tab3 100000 59) 100000 l h) (getF tab3 (key 5)) = _
  rw [t5]
theorem small (a b k : Nat) (ha : a < 8) (hb : b < 8) (hk : k < 2) : ansB (callS tab3 100000 60 5 [.int .i64 (.ofNat a), .int .i64 (.ofNat b), .int .i64 (.ofNat k)] hW) (.bool true) = true := by
  rcases (show a = 0 ∨ a = 1 ∨ a = 2 ∨ a = 3 ∨ a = 4 ∨ a = 5 ∨ a = 6 ∨ a = 7 by omega) with rfl | rfl | rfl | rfl | rfl | rfl | rfl | rfl <;> rcases (show b = 0 ∨ b = 1 ∨ b = 2 ∨ b = 3 ∨ b = 4 ∨ b = 5 ∨ b = 6 ∨ b = 7 by omega) with rfl | rfl | rfl | rfl | rfl | rfl | rfl | rfl <;> rcases (show k = 0 ∨ k = 1 by omega) with rfl | rfl
  · exact n000
  · exact n001
  · exact n010
  · exact n011
  · exact n020
  · exact n021
  · exact n030
  · exact n031
  · exact n040
  · exact n041
  · exact n050
  · exact n051
  · exact n060
  · exact n061
  · exact n070
  · exact n071
  · exact n100
  · exact n101
  · exact n110
  · exact n111
  · exact n120
  · exact n121
  · exact n130
  · exact n131
  · exact n140
  · exact n141
  · exact n150
  · exact n151
  · exact n160
  · exact n161
  · exact n170
  · exact n171
  · exact n200
  · exact n201
  · exact n210
  · exact n211
  · exact n220
  · exact n221
  · exact n230
  · exact n231
  · exact n240
  · exact n241
  · exact n250
  · exact n251
  · exact n260
  · exact n261
  · exact n270
  · exact n271
  · exact n300
  · exact n301
  · exact n310
  · exact n311
  · exact n320
  · exact n321
  · exact n330
  · exact n331
  · exact n340
  · exact n341
  · exact n350
  · exact n351
  · exact n360
  · exact n361
  · exact n370
  · exact n371
  · exact n400
  · exact n401
  · exact n410
  · exact n411
  · exact n420
  · exact n421
  · exact n430
  · exact n431
  · exact n440
  · exact n441
  · exact n450
  · exact n451
  · exact n460
  · exact n461
  · exact n470
  · exact n471
  · exact n500
  · exact n501
  · exact n510
  · exact n511
  · exact n520
  · exact n521
  · exact n530
  · exact n531
  · exact n540
  · exact n541
  · exact n550
  · exact n551
  · exact n560
  · exact n561
  · exact n570
  · exact n571
  · exact n600
  · exact n601
  · exact n610
  · exact n611
  · exact n620
  · exact n621
  · exact n630
  · exact n631
  · exact n640
  · exact n641
  · exact n650
  · exact n651
  · exact n660
  · exact n661
  · exact n670
  · exact n671
  · exact n700
  · exact n701
  · exact n710
  · exact n711
  · exact n720
  · exact n721
  · exact n730
  · exact n731
  · exact n740
  · exact n741
  · exact n750
  · exact n751
  · exact n760
  · exact n761
  · exact n770
  · exact n771
theorem names_run (x y z : Int) : ∃ h1, callS tab3 100000 60 5 [.int .i64 x, .int .i64 y, .int .i64 z] hW = some (.bool true, h1) := by
  rw [call5, cut, ← call5]
  exact ansB_ok (small _ _ _ (by omega) (by omega) (by omega))

/-- THE WALK, out of the runs. -/
theorem walk (x y z : Int) (W : World) (hL : laidMet Tryz.prog Rows.watNamesRow.laid W) : Calls Tryz.prog 5 #[.int .i64 x, .int .i64 y, .int .i64 z] W fun e w' => e = .returned (.bool true) ∧ Below W.heap.size W w' := by
  obtain ⟨ρ, G⟩ := beginW hL
  obtain ⟨h1, hr⟩ := names_run x y z
  rcases tab3_ok G 100000 60 ρ hW W 5 [.int .i64 x, .int .i64 y, .int .i64 z] [.int .i64 x, .int .i64 y, .int .i64 z] (.bool true) h1 G (.cons _ _ _ _ (.int _ _) (.cons _ _ _ _ (.int _ _) (.cons _ _ _ _ (.int _ _) .nil))) hr with ⟨_, k⟩ | ⟨v', k, _⟩
  · refine Calls.mono k ?_
    rintro e w' ⟨v', ρ', rfl, q1, q2, q3⟩
    exact ⟨by rw [q3.bool_inv], q1.below⟩
  · have hb : ∃ c, Tryz.f5.body = some c := ⟨_, rfl⟩
    obtain ⟨c, hb⟩ := hb
    have := Go.MuLone.run_callFunc_enter (P := Tryz.prog) Tryz.func5 (by kernel_rfl) hb [Value.int .i64 x, .int .i64 y, .int .i64 z].toArray W
    rw [show cW.P = Tryz.prog from rfl] at k
    rw [this] at k
    cases k

section
variable {H : Type} {enc : TypeId × Value → H} {P : Program}
theorem post_of_below {f : Func} {s : ChangeSpec} {apart fresh handsOn again : Bool} {W W' : World} {args : Array Value} {v : Value} {ds gs : List (DataW H)} {before pa pv : List MemPlace}
    (hW : DataW.Whole enc P f.params.toList s.vars apart W args.toList ds gs before)
    (hres : ∀ (b : Nat) (sp : Nat → Bool) (hd : Bool), DataW.TrodAll enc P W' b sp hd f.resultTypes.toList (v.resultList f.resultTypes.size) (s.fn H (ds ++ gs)).results [])
    (hargs : ∀ sp : Nat → Bool, (∀ p ∈ before, sp p.block = true) → DataW.TrodAll enc P W' 0 sp true f.params.toList args.toList (s.fn H (ds ++ gs)).args pa)
    (hvars : ∀ sp : Nat → Bool, (∀ p ∈ before, sp p.block = true) → DataW.TrodVars enc P W' sp s.vars (s.fn H (ds ++ gs)).vars pv)
    (hps : before = pa ++ pv) (hb : Below W.heap.size W W')
    (hok : ∀ (j : Nat) (t : TypeId) (r : Value), f.resultTypes[j]? = some t → (v.resultList f.resultTypes.size)[j]? = some r → Value.okWide P W' .any 0 t r) :
    s.post enc P f apart fresh handsOn again W args v W' := by
  have hlt : ∀ p ∈ before, p.block < W.heap.size := fun p hp => hW.lt p hp
  have hold : ∀ p ∈ before, (fun b => decide (b < W.heap.size)) p.block = true := fun p hp => by simpa using hlt p hp
  refine ⟨ds, gs, before, [], pa, pv, hW, hres _ _ _, hargs _ hold, hvars _ hold, World.keptBut_mono (fun p hp => ⟨hp, ?_⟩) (hb.frame (· ∈ before)), fun _ => ?_⟩
  · rw [hps, List.mem_append] at hp
    exact Or.inr hp
  · obtain ⟨_, _, _, _, _, hz, hn⟩ := hW
    refine ⟨hok, _, _, ([] ++ pa) ++ pv, ⟨[] ++ pa, pv, trodAll_append (hargs _ (fun _ _ => rfl)) (hres _ _ _), hvars _ (fun _ _ => rfl), rfl, ?_, ?_⟩, ?_⟩
    · intro b off hp
      have hin : MemPlace.cell b off ∈ before := by rw [hps]; simpa using hp
      rw [hb.frozen (hlt _ hin)]
      exact hz b off hin
    · intro ha
      have := hn ha
      rw [hps] at this
      simpa using this
    · intro p hp _
      rw [hps]
      simpa using hp
end

/-! ### The row -/
theorem witness_row (os : Os) {H : Type} (enc : TypeId × Value → H) :
    (OpenSpec.ofChange Rows.watNamesSpec).preRow enc Tryz.prog Tryz.f5 Rows.watNamesRow.domain false Rows.watNamesRow.laid ((laidWorld os).forCall (fun _ _ => 0) ⟨#[], #[.int .i64 0, .int .i64 0, .int .i64 0], []⟩).memory #[.int .i64 0, .int .i64 0, .int .i64 0] := by
  have hw : (DataW.whole enc Tryz.prog ((laidWorld os).forCall (fun _ _ => 0) ⟨#[], #[.int .i64 0, .int .i64 0, .int .i64 0], []⟩).memory Tryz.f5.params.toList Rows.watNamesSpec.vars false #[Value.int .i64 0, .int .i64 0, .int .i64 0].toList 8).map (fun x => (x.1, x.2.1)) =
      some ([.lit (.int .i64 0), .lit (.int .i64 0), .lit (.int .i64 0)], []) := by kernel_rfl
  obtain ⟨⟨x1, x2, x3⟩, hx, hx1⟩ := Option.map_eq_some_iff.1 hw
  simp only [Prod.mk.injEq] at hx1
  obtain ⟨rfl, rfl⟩ := hx1
  exact OpenSpec.preRow_of_cond 8 hx (by kernel_rfl) (fun k hk => by cases hk) (by kernel_rfl) (laid_met os _)
set_option maxHeartbeats 2000000 in
theorem lifted (os : Os) (started : os.Started) (H : Type) (enc : TypeId × Value → H) (F : Stop.Interp) :
    ReturnsInHanded {} Tryz.checked os 5 .any ((OpenSpec.ofChange Rows.watNamesSpec).preRow enc Tryz.prog Tryz.f5 Rows.watNamesRow.domain false Rows.watNamesRow.laid) (((OpenSpec.ofChange Rows.watNamesSpec).at F).post enc Tryz.prog Tryz.f5 false true false false) := by
  refine returnsInHanded_of_row (C := Tryz.checked) (s := OpenSpec.ofChange Rows.watNamesSpec) own started (by kernel_rfl) Tryz.func5
    (witness_row_atRef (enc := enc) (C := Tryz.checked) false (laidWorld os) #[.int .i64 0, .int .i64 0, .int .i64 0] rfl (by kernel_rfl) (by kernel_rfl) (by kernel_rfl) (witness_row os enc)) ?_
  intro W base args ds gs before hval0 hW _ _ _ hL _ _
  have hval : ∀ (j : Nat) t v, Tryz.f5.params[j]? = some t → args[j]? = some v → Value.okWide Tryz.prog W .any base t v := hval0
  have hW' := hW
  obtain ⟨p, q, hA0, hV, rfl, hfz, hnd⟩ := hW
  have hA : DataW.TrodAll enc Tryz.prog W 0 (fun _ => true) true Tryz.f5.params.toList args.toList ds p := hA0
  rw [Tryz.params5] at hA hval
  obtain ⟨v0, vs0, d0, ds0, p0, q0, hargs, rfl, rfl, h0, r0⟩ := trodAll_cons hA
  obtain ⟨v1, vs1, d1, ds1, p1, q1, rfl, rfl, rfl, h1, r1⟩ := trodAll_cons r0
  obtain ⟨v2, vs2, d2, ds2, p2, q2, rfl, rfl, rfl, h2, r2⟩ := trodAll_cons r1
  obtain ⟨rfl, rfl, rfl⟩ := trodAll_nil r2
  obtain rfl : args = #[v0, v1, v2] := by cases args; simp_all
  obtain ⟨rfl, rfl⟩ := trodVars_none hV
  obtain ⟨a0, rfl, rfl, rfl, w0⟩ := open_int Tryz.underlying3 (hval 0 3 v0 rfl rfl) h0
  obtain ⟨a1, rfl, rfl, rfl, w1⟩ := open_int Tryz.underlying3 (hval 1 3 v1 rfl rfl) h1
  obtain ⟨a2, rfl, rfl, rfl, w2⟩ := open_int Tryz.underlying3 (hval 2 3 v2 rfl rfl) h2
  clear hA0 hval0
  simp only [List.append_nil] at hW'
  refine (walk a0 a1 a2 W hL).mono fun e W' ⟨he, hg⟩ => ?_
  subst he
  exact ⟨_, rfl, post_of_below (pa := []) (pv := []) hW' (fun _ _ _ => (trodAll_cons_mk (shut_bool Tryz.underlying4 _) trodAll_mk0)) (fun sp _ => (trodAll_cons_mk (shut_int Tryz.underlying3 w0) (trodAll_cons_mk (shut_int Tryz.underlying3 w1) (trodAll_cons_mk (shut_int Tryz.underlying3 w2) trodAll_mk0)))) (fun _ _ => rfl) rfl
    hg (ok_one (by kernel_rfl) rfl (okWide_bool_mk Tryz.underlying4 _))⟩
end Go.Proofs.YtglmbknbbfmhfaaGreatDoor.watNames

