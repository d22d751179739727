/- Seat Ytfdmaafadphnfaa.ZD: what 'laid' gives: the heap with which a call begins; the witness's world. -/
import Derived.Test.YtfdmaafadphnfaaGreatDoorC1
import Derived.Test.YtfdmaafadphnfaaGreatDoorShC
set_option maxRecDepth 100000
set_option linter.unusedVariables false
namespace Go.Proofs.YtfdmaafadphnfaaGreatDoor
open Go Go.Ne Go.Lib Go.RowKit

/-! ### The beginning -/
theorem gMore : Tryz.prog.globalNamed "bodkin/ops.more" = some 1 := by kernel_rfl
theorem gAsc : Tryz.prog.globalNamed "strings.asciiSpace" = some 0 := by kernel_rfl
theorem gLast : Tryz.prog.globalNamed "unicode/utf8.acceptRanges" = some 9 := by kernel_rfl
theorem tMore : (Tryz.prog.globals[1]?).map (·.type) = some 261 := by kernel_rfl
theorem tAsc : (Tryz.prog.globals[0]?).map (·.type) = some 316 := by kernel_rfl
theorem tLast : (Tryz.prog.globals[9]?).map (·.type) = some 486 := by kernel_rfl
theorem cA0 : Tryz.prog.cellsOf 5 = 1 := by kernel_rfl
theorem cM0 : Tryz.prog.cellsOf 9 = 1 := by kernel_rfl
theorem cA1 : Tryz.prog.cellsOf 316 = 256 := by kernel_rfl
theorem cM1 : Tryz.prog.cellsOf 261 = 18 := by kernel_rfl
theorem ascD : (Rows.laid_strings_asciiSpace : DataW Unit) = tabData .u8 ascZ := by kernel_rfl
theorem moreD : (Rows.laid_bodkin_ops_more : DataW Unit) = .agg (moreB.map fun z => DataW.lit (Lit.string z)) := by kernel_rfl
theorem ascE : ascL = ascZ.map fun z => NV.int .u8 z := by kernel_rfl
theorem moreE : moreL = moreB.map fun z => NV.str z.length (leNat z) := by kernel_rfl
theorem ascN : ascZ.length = 256 := by kernel_rfl
theorem moreN : moreB.length = 18 := by kernel_rfl
theorem beginW [Sig] {W : World} (hz : FzOK W) (hL : laidMet Tryz.prog Rows.runCallsRow.laid W) : ∃ ρ, HR W cW.ng ρ hW W := by
  refine begin_ok (C := cW) hz (by decide) ?_ ?_
  · obtain ⟨cs, fuel, p, h1, ⟨ty, fr, h2⟩, h3⟩ := laid_block hL (.tail _ (.head _)) gLast tLast
    have := lt_of_some h2
    show 10 ≤ W.heap.size
    omega
  · intro x hx
    simp only [List.mem_cons, List.mem_nil_iff, or_false] at hx
    rcases hx with rfl | rfl
    · obtain ⟨cs, fuel, p, h1, _, h3⟩ := laid_block hL (.tail _ (.tail _ (.tail _ (.tail _ (.head _))))) gMore tMore
      rw [moreD] at h1
      have hc := cells_of_strs Tryz.underlying261 Tryz.underlying9 cM0 cM1 h1
      have hlen : moreB.length ≤ cs.size := by
        rcases Nat.lt_or_ge cs.size moreB.length with hlt | hge
        · obtain ⟨s, e, _⟩ := hc cs.size (moreB[cs.size]) (by simp [hlt])
          simp at e
        · exact hge
      rw [moreN] at hlen
      obtain ⟨ty, h4⟩ := h3 (by omega)
      refine ⟨by decide, cs, ty, (0, 0), h4, rfl, ?_, fun ρ i v hv => ?_⟩
      · show moreL.length ≤ _
        rw [moreE, List.length_map, moreN]; exact hlen
      · have hv : moreL[i]? = some v := hv
        rw [moreE, List.getElem?_map, Option.map_eq_some_iff] at hv
        obtain ⟨z, hz, rfl⟩ := hv
        obtain ⟨s, e, hs⟩ := hc i z hz
        refine ⟨.string s, by simpa using e, VR.str' ?_ (by rw [hs])⟩
        rw [← hs]; simp
    · obtain ⟨cs, fuel, p, h1, _, h3⟩ := laid_block hL (.tail _ (.tail _ (.tail _ (.head _)))) gAsc tAsc
      rw [ascD] at h1
      have hc := cells_of_tab Tryz.underlying316 Tryz.underlying5 cA0 cA1 h1
      have hlen : cs.size = 256 := by
        have := congrArg List.length hc
        simpa [ascN] using this
      obtain ⟨ty, h4⟩ := h3 (by omega)
      refine ⟨by decide, cs, ty, (0, 0), h4, rfl, ?_, fun ρ i v hv => ?_⟩
      · show ascL.length ≤ _
        rw [ascE, List.length_map, ascN, hlen]; exact Nat.le_refl _
      · have hv : ascL[i]? = some v := hv
        rw [ascE, List.getElem?_map, Option.map_eq_some_iff] at hv
        obtain ⟨z, hz, rfl⟩ := hv
        refine ⟨.int .u8 z, ?_, .int _ _⟩
        rw [← Array.getElem?_toList, hc, List.getElem?_map, hz]
        rfl

/-! ### The witness's world -/
theorem own : ownKnob Tryz.prog.godebug = none := by kernel_rfl
noncomputable abbrev N0 : Nat := (World.settled Tryz.prog default).heap.size
def u16s (l : List Int) : Array Value := (l.map fun z => Value.int .u16 z).toArray
def deB : List Int := [0, 1, 56, 2, 57, 49, 28, 3, 61, 58, 42, 50, 38, 29, 17, 4, 62, 47, 59, 36, 45, 43, 51, 22, 53, 39, 33, 30, 24, 18, 12, 5, 63, 55, 48, 27, 60, 41, 37, 16, 46, 35, 44, 21, 52, 32, 23, 11, 54, 26, 40, 15, 34, 20, 31, 10, 25, 14, 19, 9, 13, 8, 7, 6]
noncomputable def laidWorld (os : Os) : World :=
  let N := (World.settled Tryz.prog os).heap.size
  let w0 := World.holding Tryz.prog os ⟨#[.cells (u16s [9, 13, 1, 32, 133, 101, 160, 5760, 5600, 8192, 8202, 1, 8232, 8233, 1, 8239, 8287, 48, 12288, 12288, 1]) 417,
    .cells #[.slice (some ⟨N, 0, none⟩) 7 7, .slice none 0 0, .int .i64 2] 414], #[], []⟩
  let put (h : Array Obj) (g : Nat) (cs : Array Value) : Array Obj := h.modify g fun
    | .cells _ t frozen => .cells cs t frozen
    | o => o
  let h1 := put w0.heap 4 (deB.map fun z => Value.int .u8 z).toArray
  let h2 := put h1 9 ((List.range 16).flatMap fun i => [Value.int .u8 (accLo i), Value.int .u8 (accHi i)]).toArray
  let h3 := put h2 3 #[.pointer (some ⟨N + 1, 0, none⟩)]
  let h4 := put h3 0 (ascZ.map fun z => Value.int .u8 z).toArray
  let h5 := put h4 1 (moreB.map fun z => Value.string ⟨z.toArray⟩).toArray
  let h6 := put h5 8 (firstTab.map fun z => Value.int .u8 z).toArray
  { w0 with heap := h6 }
theorem piece0 (os : Os) (args : Array Value) : LaidIn Tryz.prog ((laidWorld os).forCall (fun _ _ => 0) ⟨#[], args, []⟩).memory [("math/bits.deBruijn64tab", Rows.laid_math_bits_deBruijn64tab)] [4] :=
  LaidIn.of_run [4] 8 (by kernel_rfl) (by kernel_rfl) (by kernel_rfl) (by kernel_rfl)
theorem piece1 (os : Os) (args : Array Value) : LaidIn Tryz.prog ((laidWorld os).forCall (fun _ _ => 0) ⟨#[], args, []⟩).memory [("unicode/utf8.acceptRanges", Rows.laid_unicode_utf8_acceptRanges)] [9] :=
  LaidIn.of_run [9] 8 (by kernel_rfl) (by kernel_rfl) (by kernel_rfl) (by kernel_rfl)
theorem piece2 (os : Os) (args : Array Value) : LaidIn Tryz.prog ((laidWorld os).forCall (fun _ _ => 0) ⟨#[], args, []⟩).memory [("unicode.White_Space", Rows.laid_unicode_White_Space)] [3, N0, N0 + 1] :=
  LaidIn.of_run [3, N0, N0 + 1] 8 (by kernel_rfl) (by kernel_rfl) (by kernel_rfl) (by kernel_rfl)
theorem piece3 (os : Os) (args : Array Value) : LaidIn Tryz.prog ((laidWorld os).forCall (fun _ _ => 0) ⟨#[], args, []⟩).memory [("strings.asciiSpace", Rows.laid_strings_asciiSpace)] [0] :=
  LaidIn.of_run [0] 8 (by kernel_rfl) (by kernel_rfl) (by kernel_rfl) (by kernel_rfl)
theorem piece4 (os : Os) (args : Array Value) : LaidIn Tryz.prog ((laidWorld os).forCall (fun _ _ => 0) ⟨#[], args, []⟩).memory [("bodkin/ops.more", Rows.laid_bodkin_ops_more)] [1] :=
  LaidIn.of_run [1] 8 (by kernel_rfl) (by kernel_rfl) (by kernel_rfl) (by kernel_rfl)
theorem piece5 (os : Os) (args : Array Value) : LaidIn Tryz.prog ((laidWorld os).forCall (fun _ _ => 0) ⟨#[], args, []⟩).memory [("unicode/utf8.first", Rows.laid_unicode_utf8_first)] [8] :=
  LaidIn.of_run [8] 8 (by kernel_rfl) (by kernel_rfl) (by kernel_rfl) (by kernel_rfl)
theorem laid_met (os : Os) (args : Array Value) : laidMet Tryz.prog Rows.runCallsRow.laid ((laidWorld os).forCall (fun _ _ => 0) ⟨#[], args, []⟩).memory :=
  ((piece0 os args).append ((piece1 os args).append ((piece2 os args).append ((piece3 os args).append ((piece4 os args).append (piece5 os args) (by kernel_rfl)) (by kernel_rfl)) (by kernel_rfl)) (by kernel_rfl)) (by kernel_rfl)).met
end Go.Proofs.YtfdmaafadphnfaaGreatDoor
