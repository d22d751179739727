/- Seat Ytfdmaafadphnfaa.ZD: the awakening. -/
import Derived.Test.YtfdmaafadphnfaaGreatDoorCT
set_option maxRecDepth 100000
set_option linter.unusedVariables false
namespace Go.Proofs.YtfdmaafadphnfaaGreatDoor
open Go Go.Ne
theorem awake_run : ansB (callS (tabW noO) 100000 60 4 [] hW) (.bool true) = true := by kernel_rfl
theorem hW_ro [Sig] (p : Pos) (b : NB) (h : hW.rd p = some b) : isRo b = true := roHeap_ro _ _ p b h
theorem says_run [Sig] {w0 : World} {ρg : Rho} {call : CallF} (hcall : CallOK cW w0 call) (G : HR w0 cW.ng ρg hW w0) {g : FuncId} {args : List NV} {v : NV} (hr : ansB (call g args hW) v = true) (ha : args.all scal = true) (hv : scal v = true) (h : H) : Says cW w0 g args h v h := by
  obtain ⟨h1, e⟩ := ansB_ok hr
  exact pure_call hcall G hW_ro e ha hv h
def awakeT : List (List NV × NV) := [([], .bool true)]
noncomputable def tab3 : PT SF := tabW (oL awakeT)
section
variable [Sig] {w0 : World} {ρg : Rho}
theorem awake_says (G : HR w0 cW.ng ρg hW w0) : ∀ args v, oL awakeT args = some v → ∀ h, Says cW w0 4 args h v h := oL_ok fun x hx h => by
  simp only [awakeT, List.mem_cons, List.mem_nil_iff, or_false] at hx
  subst hx
  exact says_run (tab_ok noO_ok _ _) G awake_run rfl rfl h
theorem tab3_ok (G : HR w0 cW.ng ρg hW w0) (N f : Nat) : CallOK cW w0 (callS tab3 N f) := tab_ok (awake_says G) N f
end
end Go.Proofs.YtfdmaafadphnfaaGreatDoor
