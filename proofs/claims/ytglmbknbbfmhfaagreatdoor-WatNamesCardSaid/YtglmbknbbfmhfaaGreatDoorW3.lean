/- Seat wat: the awakening. -/
import Derived.Test.YtglmbknbbfmhfaaGreatDoorW2
set_option maxRecDepth 100000
set_option linter.unusedVariables false
namespace Go.Proofs.YtglmbknbbfmhfaaGreatDoor
open Go Go.Ne
def findT : List (List NV × NV) := [([.str 4 1819042147], .tuple [.int .i64 (.ofNat 16), .bool true]), ([.str 9 2148140020583875359593], .tuple [.int .i64 (.ofNat 65), .bool true]), ([.str 7 28257866220712809], .tuple [.int .i64 (.ofNat 106), .bool true])]
def immT : List (List NV × NV) := [([.int .i64 (.ofNat 16)], .int .i64 (.ofNat 4)), ([.int .i64 (.ofNat 65)], .int .i64 (.ofNat 12)), ([.int .i64 (.ofNat 106)], .int .i64 (.ofNat 0))]
section
variable {w0 : World} {ρg : Rho}
theorem tab1_ok (G : HR w0 cW.ng ρg hW w0) (N f : Nat) : CallOK cW w0 (callS tab1 N f) := tab_ok (all_ok G) (plain_says G) (lanes_says G) (known_says G) noO_ok noO_ok noO_ok N f
theorem find_says (G : HR w0 cW.ng ρg hW w0) : ∀ args v, oL findT args = some v → ∀ h, Says cW w0 199 args h v h := oL_ok fun x hx h => by
  simp only [findT, List.mem_cons, List.mem_nil_iff, or_false] at hx
  rcases hx with rfl | rfl | rfl
  · exact says_run (tab1_ok G _ _) G find_call rfl rfl h
  · exact says_run (tab1_ok G _ _) G find_const rfl rfl h
  · exact says_run (tab1_ok G _ _) G find_add rfl rfl h
theorem imm_says (G : HR w0 cW.ng ρg hW w0) : ∀ args v, oL immT args = some v → ∀ h, Says cW w0 149 args h v h := oL_ok fun x hx h => by
  simp only [immT, List.mem_cons, List.mem_nil_iff, or_false] at hx
  rcases hx with rfl | rfl | rfl
  · exact says_run (tab1_ok G _ _) G imm_call rfl rfl h
  · exact says_run (tab1_ok G _ _) G imm_const rfl rfl h
  · exact says_run (tab1_ok G _ _) G imm_add rfl rfl h
end
noncomputable def tab2 : PT SF := tabW allS oPlain oLanes oKnown (oL findT) (oL immT) noO
theorem awake_run : ansB (callS tab2 100000 60 6 [] hW) (.bool true) = true := by kernel_rfl
def awakeT : List (List NV × NV) := [([], .bool true)]
theorem awake_says {w0 : World} {ρg : Rho} (G : HR w0 cW.ng ρg hW w0) : ∀ args v, oL awakeT args = some v → ∀ h, Says cW w0 6 args h v h := oL_ok fun x hx h => by
  simp only [awakeT, List.mem_cons, List.mem_nil_iff, or_false] at hx
  subst hx
  exact says_run (tab_ok (all_ok G) (plain_says G) (lanes_says G) (known_says G) (find_says G) (imm_says G) noO_ok _ _) G awake_run rfl rfl h
noncomputable def tab3 : PT SF := tabW allS oPlain oLanes oKnown (oL findT) (oL immT) (oL awakeT)
theorem tab3_ok {w0 : World} {ρg : Rho} (G : HR w0 cW.ng ρg hW w0) (N f : Nat) : CallOK cW w0 (callS tab3 N f) := tab_ok (all_ok G) (plain_says G) (lanes_says G) (known_says G) (find_says G) (imm_says G) (awake_says G) N f
end Go.Proofs.YtglmbknbbfmhfaaGreatDoor

