/- Seat Ytoikhmpgaihiaaa.ZD: the table of all functions. -/
import Derived.Test.YtoikhmpgaihiaaaGreatDoorIS0
import Derived.Test.YtoikhmpgaihiaaaGreatDoorIS1
set_option maxRecDepth 100000
namespace Go.Proofs.YtoikhmpgaihiaaaGreatDoor
open Go Go.Ne
section
variable [Sig]
theorem ib_ok (w0 : World) : SOK cW w0 303 (extS extIB) := extIB_ok (C := cW) Tryz.func303 (by kernel_rfl) (by kernel_rfl) (by kernel_rfl) (by kernel_rfl)
theorem cs_ok (w0 : World) : SOK cW w0 336 (extS extCS) := extCS_ok (C := cW) Tryz.func336 (by kernel_rfl) (by kernel_rfl) (by kernel_rfl) (by kernel_rfl)
def AllS (w0 : World) (l : List (Nat × SF)) : Prop := ∀ x ∈ l, SOK cW w0 x.1 x.2
theorem allN {w0 : World} : AllS w0 [] := fun _ h => by cases h
theorem allC {w0 : World} {g : Nat} {s : SF} {l : List (Nat × SF)} (h : SOK cW w0 g s) (hl : AllS w0 l) : AllS w0 ((g, s) :: l) := fun x hx => by
  rcases List.mem_cons.1 hx with rfl | hx
  · exact h
  · exact hl x hx
end
noncomputable def lstW (o4 o5 : List NV → Option NV) : List (Nat × SF) := [(3, S3), (4, orcS o4 S4), (5, orcS o5 S5), (6, S6), (7, S7), (8, S8), (9, S9), (10, S10), (13, S13), (14, S14), (15, S15), (16, S16), (17, S17), (18, S18), (20, S20), (21, S21), (22, S22), (23, S23), (24, S24), (25, S25), (33, S33), (34, S34), (35, S35), (36, S36), (37, S37), (38, S38), (39, S39), (40, S40), (41, S41), (42, S42), (43, S43), (44, S44), (46, S46), (51, S51), (53, S53), (55, S55), (57, S57), (69, S69), (71, S71), (75, S75), (76, S76), (77, S77), (79, S79), (80, S80), (82, S82), (83, S83), (84, S84), (85, S85), (86, S86), (87, S87), (88, S88), (93, S93), (94, S94), (95, S95), (96, S96), (97, S97), (98, S98), (100, S100), (101, S101), (66, S66), (67, S67), (70, S70), (117, S117), (119, S119), (121, S121), (124, S124), (125, S125), (128, S128), (127, S127), (129, S129), (132, S132), (131, S131), (92, S92), (136, S136), (112, S112), (113, S113), (114, S114), (158, S158), (159, S159), (160, S160), (161, S161), (162, S162), (163, S163), (164, S164), (134, S134), (165, S165), (166, S166), (167, S167), (154, S154), (153, S153), (152, S152), (155, S155), (195, S195), (197, S197), (198, S198), (194, S194), (193, S193), (196, S196), (220, S220), (224, S224), (219, S219), (252, S252), (303, extS extIB), (336, extS extCS)]
noncomputable def tabW (o4 o5 : List NV → Option NV) : PT SF := mkTab (lstW o4 o5)
section
variable [Sig]
theorem lst_ok {w0 : World} {o4 o5 : List NV → Option NV} (h4 : ∀ args v, o4 args = some v → ∀ h, Says cW w0 4 args h v h) (h5 : ∀ args v, o5 args = some v → ∀ h, Says cW w0 5 args h v h) : AllS w0 (lstW o4 o5) :=
  allC (k3 w0) (allC (orc_ok (h4) (k4 w0)) (allC (orc_ok (h5) (k5 w0)) (allC (k6 w0) (allC (k7 w0) (allC (k8 w0) (allC (k9 w0) (allC (k10 w0) (allC (k13 w0) (allC (k14 w0) (allC (k15 w0) (allC (k16 w0) (allC (k17 w0) (allC (k18 w0) (allC (k20 w0) (allC (k21 w0) (allC (k22 w0) (allC (k23 w0) (allC (k24 w0) (allC (k25 w0) (allC (k33 w0) (allC (k34 w0) (allC (k35 w0) (allC (k36 w0) (allC (k37 w0) (allC (k38 w0) (allC (k39 w0) (allC (k40 w0) (allC (k41 w0) (allC (k42 w0) (allC (k43 w0) (allC (k44 w0) (allC (k46 w0) (allC (k51 w0) (allC (k53 w0) (allC (k55 w0) (allC (k57 w0) (allC (k69 w0) (allC (k71 w0) (allC (k75 w0) (allC (k76 w0) (allC (k77 w0) (allC (k79 w0) (allC (k80 w0) (allC (k82 w0) (allC (k83 w0) (allC (k84 w0) (allC (k85 w0) (allC (k86 w0) (allC (k87 w0) (allC (k88 w0) (allC (k93 w0) (allC (k94 w0) (allC (k95 w0) (allC (k96 w0) (allC (k97 w0) (allC (k98 w0) (allC (k100 w0) (allC (k101 w0) (allC (k66 w0) (allC (k67 w0) (allC (k70 w0) (allC (k117 w0) (allC (k119 w0) (allC (k121 w0) (allC (k124 w0) (allC (k125 w0) (allC (k128 w0) (allC (k127 w0) (allC (k129 w0) (allC (k132 w0) (allC (k131 w0) (allC (k92 w0) (allC (k136 w0) (allC (k112 w0) (allC (k113 w0) (allC (k114 w0) (allC (k158 w0) (allC (k159 w0) (allC (k160 w0) (allC (k161 w0) (allC (k162 w0) (allC (k163 w0) (allC (k164 w0) (allC (k134 w0) (allC (k165 w0) (allC (k166 w0) (allC (k167 w0) (allC (k154 w0) (allC (k153 w0) (allC (k152 w0) (allC (k155 w0) (allC (k195 w0) (allC (k197 w0) (allC (k198 w0) (allC (k194 w0) (allC (k193 w0) (allC (k196 w0) (allC (k220 w0) (allC (k224 w0) (allC (k219 w0) (allC (k252 w0) (allC (ib_ok w0) (allC (cs_ok w0) (allN))))))))))))))))))))))))))))))))))))))))))))))))))))))))))))))))))))))))))))))))))))))))))))))))))))))))
theorem tab_ok {w0 : World} {o4 o5 : List NV → Option NV} (h4 : ∀ args v, o4 args = some v → ∀ h, Says cW w0 4 args h v h) (h5 : ∀ args v, o5 args = some v → ∀ h, Says cW w0 5 args h v h) (N f : Nat) : CallOK cW w0 (callS (tabW o4 o5) N f) :=
  callS_ok (fun g s hs => lst_ok h4 h5 (g, s) (mkTab_get _ g s hs)) N f
def noO : List NV → Option NV := fun _ => none
theorem noO_ok {w0 : World} {g : FuncId} : ∀ args v, noO args = some v → ∀ h, Says cW w0 g args h v h := fun _ _ h => by cases h
end
end Go.Proofs.YtoikhmpgaihiaaaGreatDoor
