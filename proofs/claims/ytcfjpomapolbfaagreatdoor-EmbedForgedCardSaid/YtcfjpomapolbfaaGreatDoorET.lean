/- Seat Ytcfjpomapolbfaa.ZD: the table of all functions. -/
import Derived.Test.YtcfjpomapolbfaaGreatDoorES0
import Derived.Test.YtcfjpomapolbfaaGreatDoorES1
set_option maxRecDepth 100000
namespace Go.Proofs.YtcfjpomapolbfaaGreatDoor
open Go Go.Ne
section
variable [Sig]
theorem ib_ok (w0 : World) : SOK cW w0 391 (extS extIB) := extIB_ok (C := cW) Tryz.func391 (by kernel_rfl) (by kernel_rfl) (by kernel_rfl) (by kernel_rfl)
theorem cs_ok (w0 : World) : SOK cW w0 424 (extS extCS) := extCS_ok (C := cW) Tryz.func424 (by kernel_rfl) (by kernel_rfl) (by kernel_rfl) (by kernel_rfl)
def AllS (w0 : World) (l : List (Nat × SF)) : Prop := ∀ x ∈ l, SOK cW w0 x.1 x.2
theorem allN {w0 : World} : AllS w0 [] := fun _ h => by cases h
theorem allC {w0 : World} {g : Nat} {s : SF} {l : List (Nat × SF)} (h : SOK cW w0 g s) (hl : AllS w0 l) : AllS w0 ((g, s) :: l) := fun x hx => by
  rcases List.mem_cons.1 hx with rfl | hx
  · exact h
  · exact hl x hx
end
noncomputable def lstW (o4 : List NV → Option NV) : List (Nat × SF) := [(3, S3), (4, orcS o4 S4), (5, S5), (6, S6), (7, S7), (8, S8), (9, S9), (10, S10), (11, S11), (12, S12), (13, S13), (14, S14), (15, S15), (16, S16), (17, S17), (18, S18), (19, S19), (20, S20), (21, S21), (22, S22), (23, S23), (24, S24), (25, S25), (26, S26), (27, S27), (28, S28), (29, S29), (30, S30), (31, S31), (32, S32), (33, S33), (34, S34), (35, S35), (36, S36), (37, S37), (39, S39), (40, S40), (41, S41), (44, S44), (47, S47), (53, S53), (54, S54), (55, S55), (56, S56), (57, S57), (62, S62), (65, S65), (66, S66), (67, S67), (69, S69), (70, S70), (71, S71), (72, S72), (77, S77), (78, S78), (79, S79), (80, S80), (81, S81), (85, S85), (90, S90), (128, S128), (129, S129), (131, S131), (132, S132), (134, S134), (136, S136), (137, S137), (138, S138), (139, S139), (140, S140), (147, S147), (148, S148), (149, S149), (157, S157), (158, S158), (159, S159), (160, S160), (161, S161), (162, S162), (163, S163), (164, S164), (165, S165), (166, S166), (167, S167), (201, S201), (203, S203), (205, S205), (209, S209), (211, S211), (213, S213), (215, S215), (245, S245), (246, S246), (247, S247), (248, S248), (249, S249), (250, S250), (251, S251), (391, extS extIB), (424, extS extCS)]
noncomputable def tabW (o4 : List NV → Option NV) : PT SF := mkTab (lstW o4)
section
variable [Sig]
theorem lst_ok {w0 : World} {o4 : List NV → Option NV} (h4 : ∀ args v, o4 args = some v → ∀ h, Says cW w0 4 args h v h) : AllS w0 (lstW o4) :=
  allC (k3 w0) (allC (orc_ok (h4) (k4 w0)) (allC (k5 w0) (allC (k6 w0) (allC (k7 w0) (allC (k8 w0) (allC (k9 w0) (allC (k10 w0) (allC (k11 w0) (allC (k12 w0) (allC (k13 w0) (allC (k14 w0) (allC (k15 w0) (allC (k16 w0) (allC (k17 w0) (allC (k18 w0) (allC (k19 w0) (allC (k20 w0) (allC (k21 w0) (allC (k22 w0) (allC (k23 w0) (allC (k24 w0) (allC (k25 w0) (allC (k26 w0) (allC (k27 w0) (allC (k28 w0) (allC (k29 w0) (allC (k30 w0) (allC (k31 w0) (allC (k32 w0) (allC (k33 w0) (allC (k34 w0) (allC (k35 w0) (allC (k36 w0) (allC (k37 w0) (allC (k39 w0) (allC (k40 w0) (allC (k41 w0) (allC (k44 w0) (allC (k47 w0) (allC (k53 w0) (allC (k54 w0) (allC (k55 w0) (allC (k56 w0) (allC (k57 w0) (allC (k62 w0) (allC (k65 w0) (allC (k66 w0) (allC (k67 w0) (allC (k69 w0) (allC (k70 w0) (allC (k71 w0) (allC (k72 w0) (allC (k77 w0) (allC (k78 w0) (allC (k79 w0) (allC (k80 w0) (allC (k81 w0) (allC (k85 w0) (allC (k90 w0) (allC (k128 w0) (allC (k129 w0) (allC (k131 w0) (allC (k132 w0) (allC (k134 w0) (allC (k136 w0) (allC (k137 w0) (allC (k138 w0) (allC (k139 w0) (allC (k140 w0) (allC (k147 w0) (allC (k148 w0) (allC (k149 w0) (allC (k157 w0) (allC (k158 w0) (allC (k159 w0) (allC (k160 w0) (allC (k161 w0) (allC (k162 w0) (allC (k163 w0) (allC (k164 w0) (allC (k165 w0) (allC (k166 w0) (allC (k167 w0) (allC (k201 w0) (allC (k203 w0) (allC (k205 w0) (allC (k209 w0) (allC (k211 w0) (allC (k213 w0) (allC (k215 w0) (allC (k245 w0) (allC (k246 w0) (allC (k247 w0) (allC (k248 w0) (allC (k249 w0) (allC (k250 w0) (allC (k251 w0) (allC (ib_ok w0) (allC (cs_ok w0) (allN))))))))))))))))))))))))))))))))))))))))))))))))))))))))))))))))))))))))))))))))))))))))))))))))))))
theorem tab_ok {w0 : World} {o4 : List NV → Option NV} (h4 : ∀ args v, o4 args = some v → ∀ h, Says cW w0 4 args h v h) (N f : Nat) : CallOK cW w0 (callS (tabW o4) N f) :=
  callS_ok (fun g s hs => lst_ok h4 (g, s) (mkTab_get _ g s hs)) N f
def noO : List NV → Option NV := fun _ => none
theorem noO_ok {w0 : World} {g : FuncId} : ∀ args v, noO args = some v → ∀ h, Says cW w0 g args h v h := fun _ _ h => by cases h
end
end Go.Proofs.YtcfjpomapolbfaaGreatDoor
