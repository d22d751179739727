/- Seat runfits: the table of all functions. -/
import Derived.Test.YtcindejphmbjpaaGreatDoorRS0
import Derived.Test.YtcindejphmbjpaaGreatDoorRS1
import Derived.Test.YtcindejphmbjpaaGreatDoorRS2
import Derived.Test.YtcindejphmbjpaaGreatDoorRS3
set_option maxRecDepth 100000
namespace Go.Proofs.YtcindejphmbjpaaGreatDoor
open Go Go.Ne
section
variable [Sig]
theorem ib_ok (w0 : World) : SOK cW w0 262 (extS extIB) := extIB_ok (C := cW) Tryz.func262 (by kernel_rfl) (by kernel_rfl) (by kernel_rfl) (by kernel_rfl)
theorem cs_ok (w0 : World) : SOK cW w0 302 (extS extCS) := extCS_ok (C := cW) Tryz.func302 (by kernel_rfl) (by kernel_rfl) (by kernel_rfl) (by kernel_rfl)
def AllS (w0 : World) (l : List (Nat × SF)) : Prop := ∀ x ∈ l, SOK cW w0 x.1 x.2
theorem allN {w0 : World} : AllS w0 [] := fun _ h => by cases h
theorem allC {w0 : World} {g : Nat} {s : SF} {l : List (Nat × SF)} (h : SOK cW w0 g s) (hl : AllS w0 l) : AllS w0 ((g, s) :: l) := fun x hx => by
  rcases List.mem_cons.1 hx with rfl | hx
  · exact h
  · exact hl x hx
end
noncomputable def lstW (o4 : List NV → Option NV) : List (Nat × SF) := [(3, S3), (4, orcS o4 S4), (5, S5), (6, S6), (7, S7), (8, S8), (9, S9), (10, S10), (11, S11), (12, S12), (13, S13), (14, S14), (15, S15), (16, S16), (17, S17), (18, S18), (20, S20), (22, S22), (23, S23), (24, S24), (25, S25), (28, S28), (29, S29), (30, S30), (32, S32), (36, S36), (37, S37), (38, S38), (39, S39), (40, S40), (41, S41), (43, S43), (42, S42), (44, S44), (45, S45), (46, S46), (47, S47), (69, S69), (72, S72), (75, S75), (78, S78), (79, S79), (82, S82), (83, S83), (84, S84), (85, S85), (86, S86), (87, S87), (88, S88), (89, S89), (90, S90), (91, S91), (92, S92), (93, S93), (94, S94), (96, S96), (97, S97), (98, S98), (100, S100), (101, S101), (102, S102), (103, S103), (104, S104), (105, S105), (106, S106), (107, S107), (110, S110), (109, S109), (108, S108), (112, S112), (114, S114), (113, S113), (70, S70), (71, S71), (73, S73), (74, S74), (77, S77), (80, S80), (81, S81), (133, S133), (132, S132), (135, S135), (134, S134), (137, S137), (136, S136), (138, S138), (139, S139), (141, S141), (140, S140), (142, S142), (145, S145), (144, S144), (147, S147), (146, S146), (99, S99), (150, S150), (151, S151), (152, S152), (153, S153), (155, S155), (157, S157), (156, S156), (159, S159), (163, S163), (160, S160), (172, S172), (126, S126), (125, S125), (127, S127), (128, S128), (129, S129), (131, S131), (130, S130), (187, S187), (188, S188), (189, S189), (190, S190), (191, S191), (192, S192), (193, S193), (194, S194), (195, S195), (196, S196), (197, S197), (199, S199), (200, S200), (215, S215), (216, S216), (228, S228), (181, S181), (183, S183), (182, S182), (184, S184), (186, S186), (254, S254), (255, S255), (256, S256), (257, S257), (259, S259), (260, S260), (252, S252), (251, S251), (253, S253), (289, S289), (290, S290), (287, S287), (262, extS extIB), (302, extS extCS)]
noncomputable def tabW (o4 : List NV → Option NV) : PT SF := mkTab (lstW o4)
section
variable [Sig]
theorem lst_ok {w0 : World} {o4 : List NV → Option NV} (h4 : ∀ args v, o4 args = some v → ∀ h, Says cW w0 4 args h v h) : AllS w0 (lstW o4) :=
  allC (k3 w0) (allC (orc_ok (h4) (k4 w0)) (allC (k5 w0) (allC (k6 w0) (allC (k7 w0) (allC (k8 w0) (allC (k9 w0) (allC (k10 w0) (allC (k11 w0) (allC (k12 w0) (allC (k13 w0) (allC (k14 w0) (allC (k15 w0) (allC (k16 w0) (allC (k17 w0) (allC (k18 w0) (allC (k20 w0) (allC (k22 w0) (allC (k23 w0) (allC (k24 w0) (allC (k25 w0) (allC (k28 w0) (allC (k29 w0) (allC (k30 w0) (allC (k32 w0) (allC (k36 w0) (allC (k37 w0) (allC (k38 w0) (allC (k39 w0) (allC (k40 w0) (allC (k41 w0) (allC (k43 w0) (allC (k42 w0) (allC (k44 w0) (allC (k45 w0) (allC (k46 w0) (allC (k47 w0) (allC (k69 w0) (allC (k72 w0) (allC (k75 w0) (allC (k78 w0) (allC (k79 w0) (allC (k82 w0) (allC (k83 w0) (allC (k84 w0) (allC (k85 w0) (allC (k86 w0) (allC (k87 w0) (allC (k88 w0) (allC (k89 w0) (allC (k90 w0) (allC (k91 w0) (allC (k92 w0) (allC (k93 w0) (allC (k94 w0) (allC (k96 w0) (allC (k97 w0) (allC (k98 w0) (allC (k100 w0) (allC (k101 w0) (allC (k102 w0) (allC (k103 w0) (allC (k104 w0) (allC (k105 w0) (allC (k106 w0) (allC (k107 w0) (allC (k110 w0) (allC (k109 w0) (allC (k108 w0) (allC (k112 w0) (allC (k114 w0) (allC (k113 w0) (allC (k70 w0) (allC (k71 w0) (allC (k73 w0) (allC (k74 w0) (allC (k77 w0) (allC (k80 w0) (allC (k81 w0) (allC (k133 w0) (allC (k132 w0) (allC (k135 w0) (allC (k134 w0) (allC (k137 w0) (allC (k136 w0) (allC (k138 w0) (allC (k139 w0) (allC (k141 w0) (allC (k140 w0) (allC (k142 w0) (allC (k145 w0) (allC (k144 w0) (allC (k147 w0) (allC (k146 w0) (allC (k99 w0) (allC (k150 w0) (allC (k151 w0) (allC (k152 w0) (allC (k153 w0) (allC (k155 w0) (allC (k157 w0) (allC (k156 w0) (allC (k159 w0) (allC (k163 w0) (allC (k160 w0) (allC (k172 w0) (allC (k126 w0) (allC (k125 w0) (allC (k127 w0) (allC (k128 w0) (allC (k129 w0) (allC (k131 w0) (allC (k130 w0) (allC (k187 w0) (allC (k188 w0) (allC (k189 w0) (allC (k190 w0) (allC (k191 w0) (allC (k192 w0) (allC (k193 w0) (allC (k194 w0) (allC (k195 w0) (allC (k196 w0) (allC (k197 w0) (allC (k199 w0) (allC (k200 w0) (allC (k215 w0) (allC (k216 w0) (allC (k228 w0) (allC (k181 w0) (allC (k183 w0) (allC (k182 w0) (allC (k184 w0) (allC (k186 w0) (allC (k254 w0) (allC (k255 w0) (allC (k256 w0) (allC (k257 w0) (allC (k259 w0) (allC (k260 w0) (allC (k252 w0) (allC (k251 w0) (allC (k253 w0) (allC (k289 w0) (allC (k290 w0) (allC (k287 w0) (allC (ib_ok w0) (allC (cs_ok w0) (allN))))))))))))))))))))))))))))))))))))))))))))))))))))))))))))))))))))))))))))))))))))))))))))))))))))))))))))))))))))))))))))))))))))))))))))))))))))
theorem tab_ok {w0 : World} {o4 : List NV → Option NV} (h4 : ∀ args v, o4 args = some v → ∀ h, Says cW w0 4 args h v h) (N f : Nat) : CallOK cW w0 (callS (tabW o4) N f) :=
  callS_ok (fun g s hs => lst_ok h4 (g, s) (mkTab_get _ g s hs)) N f
def noO : List NV → Option NV := fun _ => none
theorem noO_ok {w0 : World} {g : FuncId} : ∀ args v, noO args = some v → ∀ h, Says cW w0 g args h v h := fun _ _ h => by cases h
end
end Go.Proofs.YtcindejphmbjpaaGreatDoor

