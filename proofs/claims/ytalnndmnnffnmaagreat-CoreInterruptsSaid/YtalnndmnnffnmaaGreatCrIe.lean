/-
  The walks of core's laws: each function's numbers, written out. WRITTEN BY PROGRAM (wip/gen/crpe.py). No condition.
-/
import Derived.Test.YtalnndmnnffnmaaGreatCrS6
import Derived.Test.YtalnndmnnffnmaaGreatSxPf
set_option linter.unusedVariables false
set_option linter.unusedSimpArgs false
namespace Go.Proofs.YtalnndmnnffnmaaGreat.Cr
open Go Go.Proofs Go.Proofs.YtalnndmnnffnmaaGreat.Sx

noncomputable def E25 : PeF := PeF.atO dec 4 2
theorem ek25 : EOk F25 E25 := PeF.atO_ok
noncomputable def TX0 : List (Nat × PeF) := []
theorem et0 : ∀ f, EOk (tabF T0 f) (tabE TX0 f) := tabE_nil
noncomputable def TX1 : List (Nat × PeF) := (25, E25) :: TX0
theorem et1 : ∀ f, EOk (tabF T1 f) (tabE TX1 f) := tabE_cons ek25 et0
/-! seepage/alu.Check -/
def g37 : List Gd := []
noncomputable def E37 : PeF := S37.pe (tabE TX1) g37 false
theorem ek37 : EOk F37 E37 := Smry.pe_ok et1
noncomputable def TX2 : List (Nat × PeF) := (37, E37) :: TX1
theorem et2 : ∀ f, EOk (tabF T2 f) (tabE TX2 f) := tabE_cons ek37 et1
/-! seepage/core.Check -/
def g15 : List Gd := [[]]
noncomputable def E15 : PeF := S15.pe (tabE TX2) g15 false
theorem ek15 : EOk F15 E15 := Smry.pe_ok et2
noncomputable def TX3 : List (Nat × PeF) := (15, E15) :: TX2
theorem et3 : ∀ f, EOk (tabF T3 f) (tabE TX3 f) := tabE_cons ek15 et2
/-! seepage/core.New -/
def g23 : List Gd := []
noncomputable def E23 : PeF := S23.pe (tabE TX3) g23 false
theorem ek23 : EOk F23 E23 := Smry.pe_ok et3
noncomputable def TX4 : List (Nat × PeF) := (23, E23) :: TX3
theorem et4 : ∀ f, EOk (tabF T4 f) (tabE TX4 f) := tabE_cons ek23 et3
/-! seepage/label.Split -/
def g57 : List Gd := []
noncomputable def E57 : PeF := S57.pe (tabE TX4) g57 false
theorem ek57 : EOk F57 E57 := Smry.pe_ok et4
noncomputable def TX5 : List (Nat × PeF) := (57, E57) :: TX4
theorem et5 : ∀ f, EOk (tabF T5 f) (tabE TX5 f) := tabE_cons ek57 et4
/-! (*seepage/core.work).push -/
def g32 : List Gd := []
noncomputable def E32 : PeF := S32.pe (tabE TX5) g32 false
theorem ek32 : EOk F32 E32 := Smry.pe_ok et5
noncomputable def TX6 : List (Nat × PeF) := (32, E32) :: TX5
theorem et6 : ∀ f, EOk (tabF T6 f) (tabE TX6 f) := tabE_cons ek32 et5
/-! seepage/alu.Push -/
def g58 : List Gd := []
noncomputable def E58 : PeF := S58.pe (tabE TX6) g58 false
theorem ek58 : EOk F58 E58 := Smry.pe_ok et6
noncomputable def TX7 : List (Nat × PeF) := (58, E58) :: TX6
theorem et7 : ∀ f, EOk (tabF T7 f) (tabE TX7 f) := tabE_cons ek58 et6
/-! (*seepage/core.work).pushed -/
def g34 : List Gd := []
noncomputable def E34 : PeF := S34.pe (tabE TX7) g34 false
theorem ek34 : EOk F34 E34 := Smry.pe_ok et7
noncomputable def TX8 : List (Nat × PeF) := (34, E34) :: TX7
theorem et8 : ∀ f, EOk (tabF T8 f) (tabE TX8 f) := tabE_cons ek34 et7
/-! (*seepage/core.work).broken -/
def g35 : List Gd := []
noncomputable def E35 : PeF := S35.pe (tabE TX8) g35 true
theorem ek35 : EOk F35 E35 := Smry.pe_ok et8
noncomputable def TX9 : List (Nat × PeF) := (35, E35) :: TX8
theorem et9 : ∀ f, EOk (tabF T9 f) (tabE TX9 f) := tabE_cons ek35 et8
/-! (*seepage/core.work).first -/
def g59 : List Gd := []
noncomputable def E59 : PeF := S59.pe (tabE TX9) g59 true
theorem ek59 : EOk F59 E59 := Smry.pe_ok et9
noncomputable def TX10 : List (Nat × PeF) := (59, E59) :: TX9
theorem et10 : ∀ f, EOk (tabF T10 f) (tabE TX10 f) := tabE_cons ek59 et9
/-! seepage/label.And -/
def g95 : List Gd := []
noncomputable def E95 : PeF := S95.pe (tabE TX10) g95 false
theorem ek95 : EOk F95 E95 := Smry.pe_ok et10
noncomputable def TX11 : List (Nat × PeF) := (95, E95) :: TX10
theorem et11 : ∀ f, EOk (tabF T11 f) (tabE TX11 f) := tabE_cons ek95 et10
/-! (*seepage/core.work).stored -/
def g60 : List Gd := []
noncomputable def E60 : PeF := S60.pe (tabE TX11) g60 true
theorem ek60 : EOk F60 E60 := Smry.pe_ok et11
noncomputable def TX12 : List (Nat × PeF) := (60, E60) :: TX11
theorem et12 : ∀ f, EOk (tabF T12 f) (tabE TX12 f) := tabE_cons ek60 et11
/-! seepage/label.Bit -/
def g107 : List Gd := []
noncomputable def E107 : PeF := S107.pe (tabE TX12) g107 false
theorem ek107 : EOk F107 E107 := Smry.pe_ok et12
noncomputable def TX13 : List (Nat × PeF) := (107, E107) :: TX12
theorem et13 : ∀ f, EOk (tabF T13 f) (tabE TX13 f) := tabE_cons ek107 et12
/-! seepage/alu.Set -/
def g105 : List Gd := []
noncomputable def E105 : PeF := S105.pe (tabE TX13) g105 false
theorem ek105 : EOk F105 E105 := Smry.pe_ok et13
noncomputable def TX14 : List (Nat × PeF) := (105, E105) :: TX13
theorem et14 : ∀ f, EOk (tabF T14 f) (tabE TX14 f) := tabE_cons ek105 et13
/-! seepage/alu.NZ -/
def g103 : List Gd := [[], []]
noncomputable def E103 : PeF := S103.pe (tabE TX14) g103 false
theorem ek103 : EOk F103 E103 := Smry.pe_ok et14
noncomputable def TX15 : List (Nat × PeF) := (103, E103) :: TX14
theorem et15 : ∀ f, EOk (tabF T15 f) (tabE TX15 f) := tabE_cons ek103 et14
/-! seepage/alu.shifted -/
def g106 : List Gd := [[], []]
noncomputable def E106 : PeF := S106.pe (tabE TX15) g106 false
theorem ek106 : EOk F106 E106 := Smry.pe_ok et15
noncomputable def TX16 : List (Nat × PeF) := (106, E106) :: TX15
theorem et16 : ∀ f, EOk (tabF T16 f) (tabE TX16 f) := tabE_cons ek106 et15
/-! seepage/alu.Asl -/
def g67 : List Gd := [[]]
noncomputable def E67 : PeF := S67.pe (tabE TX16) g67 false
theorem ek67 : EOk F67 E67 := Smry.pe_ok et16
noncomputable def TX17 : List (Nat × PeF) := (67, E67) :: TX16
theorem et17 : ∀ f, EOk (tabF T17 f) (tabE TX17 f) := tabE_cons ek67 et16
/-! seepage/alu.Lsr -/
def g68 : List Gd := [[]]
noncomputable def E68 : PeF := S68.pe (tabE TX17) g68 false
theorem ek68 : EOk F68 E68 := Smry.pe_ok et17
noncomputable def TX18 : List (Nat × PeF) := (68, E68) :: TX17
theorem et18 : ∀ f, EOk (tabF T18 f) (tabE TX18 f) := tabE_cons ek68 et17
/-! seepage/alu.Get -/
def g108 : List Gd := []
noncomputable def E108 : PeF := S108.pe (tabE TX18) g108 false
theorem ek108 : EOk F108 E108 := Smry.pe_ok et18
noncomputable def TX19 : List (Nat × PeF) := (108, E108) :: TX18
theorem et19 : ∀ f, EOk (tabF T19 f) (tabE TX19 f) := tabE_cons ek108 et18
/-! seepage/alu.Rol -/
def g69 : List Gd := [[]]
noncomputable def E69 : PeF := S69.pe (tabE TX19) g69 false
theorem ek69 : EOk F69 E69 := Smry.pe_ok et19
noncomputable def TX20 : List (Nat × PeF) := (69, E69) :: TX19
theorem et20 : ∀ f, EOk (tabF T20 f) (tabE TX20 f) := tabE_cons ek69 et19
/-! seepage/alu.Ror -/
def g70 : List Gd := [[]]
noncomputable def E70 : PeF := S70.pe (tabE TX20) g70 false
theorem ek70 : EOk F70 E70 := Smry.pe_ok et20
noncomputable def TX21 : List (Nat × PeF) := (70, E70) :: TX20
theorem et21 : ∀ f, EOk (tabF T21 f) (tabE TX21 f) := tabE_cons ek70 et20
/-! seepage/label.Or -/
def g109 : List Gd := []
noncomputable def E109 : PeF := S109.pe (tabE TX21) g109 false
theorem ek109 : EOk F109 E109 := Smry.pe_ok et21
noncomputable def TX22 : List (Nat × PeF) := (109, E109) :: TX21
theorem et22 : ∀ f, EOk (tabF T22 f) (tabE TX22 f) := tabE_cons ek109 et21
/-! (*seepage/core.work).ora -/
def g71 : List Gd := [[]]
noncomputable def E71 : PeF := S71.pe (tabE TX22) g71 false
theorem ek71 : EOk F71 E71 := Smry.pe_ok et22
noncomputable def TX23 : List (Nat × PeF) := (71, E71) :: TX22
theorem et23 : ∀ f, EOk (tabF T23 f) (tabE TX23 f) := tabE_cons ek71 et22
/-! (*seepage/core.work).and -/
def g72 : List Gd := [[]]
noncomputable def E72 : PeF := S72.pe (tabE TX23) g72 false
theorem ek72 : EOk F72 E72 := Smry.pe_ok et23
noncomputable def TX24 : List (Nat × PeF) := (72, E72) :: TX23
theorem et24 : ∀ f, EOk (tabF T24 f) (tabE TX24 f) := tabE_cons ek72 et23
/-! seepage/label.Xor -/
def g110 : List Gd := []
noncomputable def E110 : PeF := S110.pe (tabE TX24) g110 false
theorem ek110 : EOk F110 E110 := Smry.pe_ok et24
noncomputable def TX25 : List (Nat × PeF) := (110, E110) :: TX24
theorem et25 : ∀ f, EOk (tabF T25 f) (tabE TX25 f) := tabE_cons ek110 et24
/-! (*seepage/core.work).eor -/
def g73 : List Gd := [[]]
noncomputable def E73 : PeF := S73.pe (tabE TX25) g73 false
theorem ek73 : EOk F73 E73 := Smry.pe_ok et25
noncomputable def TX26 : List (Nat × PeF) := (73, E73) :: TX25
theorem et26 : ∀ f, EOk (tabF T26 f) (tabE TX26 f) := tabE_cons ek73 et25
/-! seepage/alu.Adc -/
def g111 : List Gd := [[], [], []]
noncomputable def E111 : PeF := S111.pe (tabE TX26) g111 false
theorem ek111 : EOk F111 E111 := Smry.pe_ok et26
noncomputable def TX27 : List (Nat × PeF) := (111, E111) :: TX26
theorem et27 : ∀ f, EOk (tabF T27 f) (tabE TX27 f) := tabE_cons ek111 et26
/-! (*seepage/core.work).adc -/
def g74 : List Gd := [[]]
noncomputable def E74 : PeF := S74.pe (tabE TX27) g74 false
theorem ek74 : EOk F74 E74 := Smry.pe_ok et27
noncomputable def TX28 : List (Nat × PeF) := (74, E74) :: TX27
theorem et28 : ∀ f, EOk (tabF T28 f) (tabE TX28 f) := tabE_cons ek74 et27
/-! seepage/alu.Sbx -/
def g116 : List Gd := [[], []]
noncomputable def E116 : PeF := S116.pe (tabE TX28) g116 false
theorem ek116 : EOk F116 E116 := Smry.pe_ok et28
noncomputable def TX29 : List (Nat × PeF) := (116, E116) :: TX28
theorem et29 : ∀ f, EOk (tabF T29 f) (tabE TX29 f) := tabE_cons ek116 et28
/-! seepage/alu.Cmp -/
def g112 : List Gd := [[]]
noncomputable def E112 : PeF := S112.pe (tabE TX29) g112 false
theorem ek112 : EOk F112 E112 := Smry.pe_ok et29
noncomputable def TX30 : List (Nat × PeF) := (112, E112) :: TX29
theorem et30 : ∀ f, EOk (tabF T30 f) (tabE TX30 f) := tabE_cons ek112 et29
/-! (*seepage/core.work).cmp -/
def g75 : List Gd := [[]]
noncomputable def E75 : PeF := S75.pe (tabE TX30) g75 false
theorem ek75 : EOk F75 E75 := Smry.pe_ok et30
noncomputable def TX31 : List (Nat × PeF) := (75, E75) :: TX30
theorem et31 : ∀ f, EOk (tabF T31 f) (tabE TX31 f) := tabE_cons ek75 et30
/-! seepage/alu.Sbc -/
def g113 : List Gd := [[]]
noncomputable def E113 : PeF := S113.pe (tabE TX31) g113 false
theorem ek113 : EOk F113 E113 := Smry.pe_ok et31
noncomputable def TX32 : List (Nat × PeF) := (113, E113) :: TX31
theorem et32 : ∀ f, EOk (tabF T32 f) (tabE TX32 f) := tabE_cons ek113 et31
/-! (*seepage/core.work).sbc -/
def g76 : List Gd := [[]]
noncomputable def E76 : PeF := S76.pe (tabE TX32) g76 false
theorem ek76 : EOk F76 E76 := Smry.pe_ok et32
noncomputable def TX33 : List (Nat × PeF) := (76, E76) :: TX32
theorem et33 : ∀ f, EOk (tabF T33 f) (tabE TX33 f) := tabE_cons ek76 et32
/-! (*seepage/core.work).turned -/
def g50 : List Gd := [[(.v 15, true), (.v 30, false), (.v 31, true)], [(.v 15, false), (.v 16, true), (.v 30, false), (.v 31, true)], [(.v 15, false), (.v 16, false), (.v 17, true), (.v 30, false), (.v 31, true)], [(.v 15, false), (.v 16, false), (.v 17, false), (.v 18, true), (.v 30, false), (.v 31, true)], [(.v 15, false), (.v 16, false), (.v 17, false), (.v 18, false), (.v 19, true), (.v 30, false), (.v 31, true)], [(.v 15, false), (.v 16, false), (.v 17, false), (.v 18, false), (.v 19, false), (.v 20, true), (.v 30, false), (.v 31, true)], [(.v 15, false), (.v 16, false), (.v 17, false), (.v 18, false), (.v 19, false), (.v 20, false), (.v 21, true), (.v 30, false), (.v 31, true)], [(.v 15, false), (.v 16, false), (.v 17, false), (.v 18, false), (.v 19, false), (.v 20, false), (.v 21, false), (.v 30, false), (.v 31, true)], [(.v 15, false), (.v 16, false), (.v 17, false), (.v 18, false), (.v 19, false), (.v 20, false), (.v 21, false), (.v 22, false), (.v 23, true), (.v 24, true), (.v 25, true), (.v 26, true), (.v 27, true), (.v 28, true), (.v 29, true), (.v 30, true), (.v 31, false)], [(.v 70, true), (.v 81, false), (.v 82, true)], [(.v 70, false), (.v 71, true), (.v 81, false), (.v 82, true)], [(.v 70, false), (.v 71, false), (.v 72, true), (.v 81, false), (.v 82, true)], [(.v 70, false), (.v 71, false), (.v 72, false), (.v 73, true), (.v 81, false), (.v 82, true)], [(.v 70, false), (.v 71, false), (.v 72, false), (.v 73, false), (.v 74, true), (.v 81, false), (.v 82, true)], [(.v 70, false), (.v 71, false), (.v 72, false), (.v 73, false), (.v 74, false), (.v 81, false), (.v 82, true)]]
noncomputable def E50 : PeF := S50.pe (tabE TX33) g50 true
theorem ek50 : EOk F50 E50 := Smry.pe_ok et33
noncomputable def TX34 : List (Nat × PeF) := (50, E50) :: TX33
theorem et34 : ∀ f, EOk (tabF T34 f) (tabE TX34 f) := tabE_cons ek50 et33
/-! (*seepage/core.work).worked -/
def g36 : List Gd := [[], [(.v 30, true), (.v 31, true), (.v 32, true)], [(.v 32, false), (.v 53, false), (.v 54, true), (.v 55, true), (.v 56, true)]]
noncomputable def E36 : PeF := S36.pe (tabE TX34) g36 true
theorem ek36 : EOk F36 E36 := Smry.pe_ok et34
noncomputable def TX35 : List (Nat × PeF) := (36, E36) :: TX34
theorem et35 : ∀ f, EOk (tabF T35 f) (tabE TX35 f) := tabE_cons ek36 et34
/-! seepage/core.Ask -/
def g14 : List Gd := [[], [], [(.v 12, false), (.v 17, false), (.v 18, false), (.v 19, false), (.v 20, false), (.v 21, false), (.v 23, false), (.v 31, false), (.v 35, false), (.v 36, false), (.v 41, true)], [(.v 12, false), (.v 17, false), (.v 18, false), (.v 19, false), (.v 20, false), (.v 21, false), (.v 23, false), (.v 31, false), (.v 35, false), (.v 36, false), (.v 41, false), (.v 64, true)], [(.v 12, false), (.v 17, false), (.v 18, false), (.v 19, false), (.v 20, false), (.v 21, false), (.v 23, false), (.v 31, false), (.v 35, false), (.v 36, false), (.v 41, false), (.v 64, false)]]
noncomputable def E14 : PeF := S14.pe (tabE TX35) g14 true
theorem ek14 : EOk F14 E14 := Smry.pe_ok et35
noncomputable def TX36 : List (Nat × PeF) := (14, E14) :: TX35
theorem et36 : ∀ f, EOk (tabF T36 f) (tabE TX36 f) := tabE_cons ek14 et35
/-! (*seepage/core.work).fetch -/
def g26 : List Gd := []
noncomputable def E26 : PeF := S26.pe (tabE TX36) g26 false
theorem ek26 : EOk F26 E26 := Smry.pe_ok et36
noncomputable def TX37 : List (Nat × PeF) := (26, E26) :: TX36
theorem et37 : ∀ f, EOk (tabF T37 f) (tabE TX37 f) := tabE_cons ek26 et36
/-! (*seepage/core.work).flag -/
def g66 : List Gd := [[]]
noncomputable def E66 : PeF := S66.pe (tabE TX37) g66 false
theorem ek66 : EOk F66 E66 := Smry.pe_ok et37
noncomputable def TX38 : List (Nat × PeF) := (66, E66) :: TX37
theorem et38 : ∀ f, EOk (tabF T38 f) (tabE TX38 f) := tabE_cons ek66 et37
/-! (*seepage/core.work).without -/
def g49 : List Gd := [[(.v 14, true)], [(.v 14, false), (.v 15, true)], [(.v 14, false), (.v 15, false), (.v 16, true)], [(.v 14, false), (.v 15, false), (.v 16, false), (.v 17, true)], [(.v 14, false), (.v 15, false), (.v 16, false), (.v 17, false), (.v 18, true)], [(.v 14, false), (.v 15, false), (.v 16, false), (.v 17, false), (.v 18, false), (.v 19, false), (.v 20, true)], [(.v 14, false), (.v 15, false), (.v 16, false), (.v 17, false), (.v 18, false), (.v 19, false), (.v 20, false), (.v 25, true)], [(.v 14, false), (.v 15, false), (.v 16, false), (.v 17, false), (.v 18, false), (.v 19, false), (.v 20, false), (.v 25, false), (.v 30, true)], [(.v 14, false), (.v 15, false), (.v 16, false), (.v 17, false), (.v 18, false), (.v 19, false), (.v 20, false), (.v 25, false), (.v 30, false), (.v 35, true)], [(.v 14, false), (.v 15, false), (.v 16, false), (.v 17, false), (.v 18, false), (.v 19, false), (.v 20, false), (.v 25, false), (.v 30, false), (.v 35, false), (.v 40, true)], [(.v 14, false), (.v 15, false), (.v 16, false), (.v 17, false), (.v 18, false), (.v 19, false), (.v 20, false), (.v 25, false), (.v 30, false), (.v 35, false), (.v 40, false), (.v 55, true)], [(.v 14, false), (.v 15, false), (.v 16, false), (.v 17, false), (.v 18, false), (.v 19, false), (.v 20, false), (.v 25, false), (.v 30, false), (.v 35, false), (.v 40, false), (.v 55, false), (.v 70, true)], [(.v 14, false), (.v 15, false), (.v 16, false), (.v 17, false), (.v 18, false), (.v 19, false), (.v 20, false), (.v 25, false), (.v 30, false), (.v 35, false), (.v 40, false), (.v 55, false), (.v 70, false), (.v 85, true)], [(.v 14, false), (.v 15, false), (.v 16, false), (.v 17, false), (.v 18, false), (.v 19, false), (.v 20, false), (.v 25, false), (.v 30, false), (.v 35, false), (.v 40, false), (.v 55, false), (.v 70, false), (.v 85, false), (.v 100, true)], [(.v 14, false), (.v 15, false), (.v 16, false), (.v 17, false), (.v 18, false), (.v 19, false), (.v 20, false), (.v 25, false), (.v 30, false), (.v 35, false), (.v 40, false), (.v 55, false), (.v 70, false), (.v 85, false), (.v 100, false), (.v 115, true)], [(.v 14, false), (.v 15, false), (.v 16, false), (.v 17, false), (.v 18, false), (.v 19, false), (.v 20, false), (.v 25, false), (.v 30, false), (.v 35, false), (.v 40, false), (.v 55, false), (.v 70, false), (.v 85, false), (.v 100, false), (.v 115, false), (.v 130, true)]]
noncomputable def E49 : PeF := S49.pe (tabE TX38) g49 false
theorem ek49 : EOk F49 E49 := Smry.pe_ok et38
noncomputable def TX39 : List (Nat × PeF) := (49, E49) :: TX38
theorem et39 : ∀ f, EOk (tabF T39 f) (tabE TX39 f) := tabE_cons ek49 et38
/-! (*seepage/core.work).cpx -/
def g77 : List Gd := [[]]
noncomputable def E77 : PeF := S77.pe (tabE TX39) g77 false
theorem ek77 : EOk F77 E77 := Smry.pe_ok et39
noncomputable def TX40 : List (Nat × PeF) := (77, E77) :: TX39
theorem et40 : ∀ f, EOk (tabF T40 f) (tabE TX40 f) := tabE_cons ek77 et39
/-! (*seepage/core.work).cpy -/
def g78 : List Gd := [[]]
noncomputable def E78 : PeF := S78.pe (tabE TX40) g78 false
theorem ek78 : EOk F78 E78 := Smry.pe_ok et40
noncomputable def TX41 : List (Nat × PeF) := (78, E78) :: TX40
theorem et41 : ∀ f, EOk (tabF T41 f) (tabE TX41 f) := tabE_cons ek78 et40
/-! seepage/alu.Bit -/
def g114 : List Gd := [[], [], []]
noncomputable def E114 : PeF := S114.pe (tabE TX41) g114 false
theorem ek114 : EOk F114 E114 := Smry.pe_ok et41
noncomputable def TX42 : List (Nat × PeF) := (114, E114) :: TX41
theorem et42 : ∀ f, EOk (tabF T42 f) (tabE TX42 f) := tabE_cons ek114 et41
/-! (*seepage/core.work).bit -/
def g79 : List Gd := [[]]
noncomputable def E79 : PeF := S79.pe (tabE TX42) g79 false
theorem ek79 : EOk F79 E79 := Smry.pe_ok et42
noncomputable def TX43 : List (Nat × PeF) := (79, E79) :: TX42
theorem et43 : ∀ f, EOk (tabF T43 f) (tabE TX43 f) := tabE_cons ek79 et42
/-! (*seepage/core.work).lda -/
def g80 : List Gd := [[]]
noncomputable def E80 : PeF := S80.pe (tabE TX43) g80 false
theorem ek80 : EOk F80 E80 := Smry.pe_ok et43
noncomputable def TX44 : List (Nat × PeF) := (80, E80) :: TX43
theorem et44 : ∀ f, EOk (tabF T44 f) (tabE TX44 f) := tabE_cons ek80 et43
/-! (*seepage/core.work).ldx -/
def g81 : List Gd := [[]]
noncomputable def E81 : PeF := S81.pe (tabE TX44) g81 false
theorem ek81 : EOk F81 E81 := Smry.pe_ok et44
noncomputable def TX45 : List (Nat × PeF) := (81, E81) :: TX44
theorem et45 : ∀ f, EOk (tabF T45 f) (tabE TX45 f) := tabE_cons ek81 et44
/-! (*seepage/core.work).ldy -/
def g82 : List Gd := [[]]
noncomputable def E82 : PeF := S82.pe (tabE TX45) g82 false
theorem ek82 : EOk F82 E82 := Smry.pe_ok et45
noncomputable def TX46 : List (Nat × PeF) := (82, E82) :: TX45
theorem et46 : ∀ f, EOk (tabF T46 f) (tabE TX46 f) := tabE_cons ek82 et45
/-! (*seepage/core.work).lax -/
def g83 : List Gd := [[]]
noncomputable def E83 : PeF := S83.pe (tabE TX46) g83 false
theorem ek83 : EOk F83 E83 := Smry.pe_ok et46
noncomputable def TX47 : List (Nat × PeF) := (83, E83) :: TX46
theorem et47 : ∀ f, EOk (tabF T47 f) (tabE TX47 f) := tabE_cons ek83 et46
/-! (*seepage/core.work).las -/
def g84 : List Gd := [[]]
noncomputable def E84 : PeF := S84.pe (tabE TX47) g84 false
theorem ek84 : EOk F84 E84 := Smry.pe_ok et47
noncomputable def TX48 : List (Nat × PeF) := (84, E84) :: TX47
theorem et48 : ∀ f, EOk (tabF T48 f) (tabE TX48 f) := tabE_cons ek84 et47
/-! (*seepage/core.work).anc -/
def g85 : List Gd := [[], []]
noncomputable def E85 : PeF := S85.pe (tabE TX48) g85 false
theorem ek85 : EOk F85 E85 := Smry.pe_ok et48
noncomputable def TX49 : List (Nat × PeF) := (85, E85) :: TX48
theorem et49 : ∀ f, EOk (tabF T49 f) (tabE TX49 f) := tabE_cons ek85 et48
/-! (*seepage/core.work).alr -/
def g86 : List Gd := [[]]
noncomputable def E86 : PeF := S86.pe (tabE TX49) g86 false
theorem ek86 : EOk F86 E86 := Smry.pe_ok et49
noncomputable def TX50 : List (Nat × PeF) := (86, E86) :: TX49
theorem et50 : ∀ f, EOk (tabF T50 f) (tabE TX50 f) := tabE_cons ek86 et49
/-! seepage/alu.Arr -/
def g115 : List Gd := [[], [], []]
noncomputable def E115 : PeF := S115.pe (tabE TX50) g115 false
theorem ek115 : EOk F115 E115 := Smry.pe_ok et50
noncomputable def TX51 : List (Nat × PeF) := (115, E115) :: TX50
theorem et51 : ∀ f, EOk (tabF T51 f) (tabE TX51 f) := tabE_cons ek115 et50
/-! (*seepage/core.work).arr -/
def g87 : List Gd := [[]]
noncomputable def E87 : PeF := S87.pe (tabE TX51) g87 false
theorem ek87 : EOk F87 E87 := Smry.pe_ok et51
noncomputable def TX52 : List (Nat × PeF) := (87, E87) :: TX51
theorem et52 : ∀ f, EOk (tabF T52 f) (tabE TX52 f) := tabE_cons ek87 et51
/-! (*seepage/core.work).sbx -/
def g88 : List Gd := [[]]
noncomputable def E88 : PeF := S88.pe (tabE TX52) g88 false
theorem ek88 : EOk F88 E88 := Smry.pe_ok et52
noncomputable def TX53 : List (Nat × PeF) := (88, E88) :: TX52
theorem et53 : ∀ f, EOk (tabF T53 f) (tabE TX53 f) := tabE_cons ek88 et52
/-! (*seepage/core.work).ane -/
def g89 : List Gd := [[]]
noncomputable def E89 : PeF := S89.pe (tabE TX53) g89 false
theorem ek89 : EOk F89 E89 := Smry.pe_ok et53
noncomputable def TX54 : List (Nat × PeF) := (89, E89) :: TX53
theorem et54 : ∀ f, EOk (tabF T54 f) (tabE TX54 f) := tabE_cons ek89 et53
/-! (*seepage/core.work).lxa -/
def g90 : List Gd := [[]]
noncomputable def E90 : PeF := S90.pe (tabE TX54) g90 false
theorem ek90 : EOk F90 E90 := Smry.pe_ok et54
noncomputable def TX55 : List (Nat × PeF) := (90, E90) :: TX54
theorem et55 : ∀ f, EOk (tabF T55 f) (tabE TX55 f) := tabE_cons ek90 et54
/-! (*seepage/core.work).with -/
def g51 : List Gd := [[(.v 15, true), (.v 54, false), (.v 55, true)], [(.v 15, false), (.v 16, true), (.v 54, false), (.v 55, true)], [(.v 15, false), (.v 16, false), (.v 17, true), (.v 54, false), (.v 55, true)], [(.v 15, false), (.v 16, false), (.v 17, false), (.v 18, true), (.v 54, false), (.v 55, true)], [(.v 15, false), (.v 16, false), (.v 17, false), (.v 18, false), (.v 19, true), (.v 54, false), (.v 55, true)], [(.v 15, false), (.v 16, false), (.v 17, false), (.v 18, false), (.v 19, false), (.v 20, true), (.v 54, false), (.v 55, true)], [(.v 15, false), (.v 16, false), (.v 17, false), (.v 18, false), (.v 19, false), (.v 20, false), (.v 21, true), (.v 54, false), (.v 55, true)], [(.v 15, false), (.v 16, false), (.v 17, false), (.v 18, false), (.v 19, false), (.v 20, false), (.v 21, false), (.v 22, true), (.v 54, false), (.v 55, true)], [(.v 15, false), (.v 16, false), (.v 17, false), (.v 18, false), (.v 19, false), (.v 20, false), (.v 21, false), (.v 22, false), (.v 23, true), (.v 54, false), (.v 55, true)], [(.v 15, false), (.v 16, false), (.v 17, false), (.v 18, false), (.v 19, false), (.v 20, false), (.v 21, false), (.v 22, false), (.v 23, false), (.v 24, true), (.v 54, false), (.v 55, true)], [(.v 15, false), (.v 16, false), (.v 17, false), (.v 18, false), (.v 19, false), (.v 20, false), (.v 21, false), (.v 22, false), (.v 23, false), (.v 24, false), (.v 25, true), (.v 54, false), (.v 55, true)], [(.v 15, false), (.v 16, false), (.v 17, false), (.v 18, false), (.v 19, false), (.v 20, false), (.v 21, false), (.v 22, false), (.v 23, false), (.v 24, false), (.v 25, false), (.v 26, true), (.v 54, false), (.v 55, true)], [(.v 15, false), (.v 16, false), (.v 17, false), (.v 18, false), (.v 19, false), (.v 20, false), (.v 21, false), (.v 22, false), (.v 23, false), (.v 24, false), (.v 25, false), (.v 26, false), (.v 27, true), (.v 54, false), (.v 55, true)], [(.v 15, false), (.v 16, false), (.v 17, false), (.v 18, false), (.v 19, false), (.v 20, false), (.v 21, false), (.v 22, false), (.v 23, false), (.v 24, false), (.v 25, false), (.v 26, false), (.v 27, false), (.v 28, true), (.v 54, false), (.v 55, true)], [(.v 15, false), (.v 16, false), (.v 17, false), (.v 18, false), (.v 19, false), (.v 20, false), (.v 21, false), (.v 22, false), (.v 23, false), (.v 24, false), (.v 25, false), (.v 26, false), (.v 27, false), (.v 28, false), (.v 29, true), (.v 54, false), (.v 55, true)], [(.v 15, false), (.v 16, false), (.v 17, false), (.v 18, false), (.v 19, false), (.v 20, false), (.v 21, false), (.v 22, false), (.v 23, false), (.v 24, false), (.v 25, false), (.v 26, false), (.v 27, false), (.v 28, false), (.v 29, false), (.v 30, true), (.v 54, false), (.v 55, true)], [(.v 15, false), (.v 16, false), (.v 17, false), (.v 18, false), (.v 19, false), (.v 20, false), (.v 21, false), (.v 22, false), (.v 23, false), (.v 24, false), (.v 25, false), (.v 26, false), (.v 27, false), (.v 28, false), (.v 29, false), (.v 30, false), (.v 31, true), (.v 54, false), (.v 55, true)], [(.v 15, false), (.v 16, false), (.v 17, false), (.v 18, false), (.v 19, false), (.v 20, false), (.v 21, false), (.v 22, false), (.v 23, false), (.v 24, false), (.v 25, false), (.v 26, false), (.v 27, false), (.v 28, false), (.v 29, false), (.v 30, false), (.v 31, false), (.v 32, true), (.v 54, false), (.v 55, true)], [(.v 15, false), (.v 16, false), (.v 17, false), (.v 18, false), (.v 19, false), (.v 20, false), (.v 21, false), (.v 22, false), (.v 23, false), (.v 24, false), (.v 25, false), (.v 26, false), (.v 27, false), (.v 28, false), (.v 29, false), (.v 30, false), (.v 31, false), (.v 32, false), (.v 33, true), (.v 54, false), (.v 55, true)], [(.v 15, false), (.v 16, false), (.v 17, false), (.v 18, false), (.v 19, false), (.v 20, false), (.v 21, false), (.v 22, false), (.v 23, false), (.v 24, false), (.v 25, false), (.v 26, false), (.v 27, false), (.v 28, false), (.v 29, false), (.v 30, false), (.v 31, false), (.v 32, false), (.v 33, false), (.v 54, false), (.v 55, true)]]
noncomputable def E51 : PeF := S51.pe (tabE TX55) g51 true
theorem ek51 : EOk F51 E51 := Smry.pe_ok et55
noncomputable def TX56 : List (Nat × PeF) := (51, E51) :: TX55
theorem et56 : ∀ f, EOk (tabF T56 f) (tabE TX56 f) := tabE_cons ek51 et55
/-! (*seepage/core.work).taken -/
def g91 : List Gd := []
noncomputable def E91 : PeF := S91.pe (tabE TX56) g91 true
theorem ek91 : EOk F91 E91 := Smry.pe_ok et56
noncomputable def TX57 : List (Nat × PeF) := (91, E91) :: TX56
theorem et57 : ∀ f, EOk (tabF T57 f) (tabE TX57 f) := tabE_cons ek91 et56
/-! (*seepage/core.work).branch -/
def g52 : List Gd := [[(.v 15, true)]]
noncomputable def E52 : PeF := S52.pe (tabE TX57) g52 true
theorem ek52 : EOk F52 E52 := Smry.pe_ok et57
noncomputable def TX58 : List (Nat × PeF) := (52, E52) :: TX57
theorem et58 : ∀ f, EOk (tabF T58 f) (tabE TX58 f) := tabE_cons ek52 et57
/-! seepage/alu.Pull -/
def g93 : List Gd := []
noncomputable def E93 : PeF := S93.pe (tabE TX58) g93 false
theorem ek93 : EOk F93 E93 := Smry.pe_ok et58
noncomputable def TX59 : List (Nat × PeF) := (93, E93) :: TX58
theorem et59 : ∀ f, EOk (tabF T59 f) (tabE TX59 f) := tabE_cons ek93 et58
/-! (*seepage/core.work).pulls -/
def g53 : List Gd := [[(.v 17, false), (.v 21, false)]]
noncomputable def E53 : PeF := S53.pe (tabE TX59) g53 false
theorem ek53 : EOk F53 E53 := Smry.pe_ok et59
noncomputable def TX60 : List (Nat × PeF) := (53, E53) :: TX59
theorem et60 : ∀ f, EOk (tabF T60 f) (tabE TX60 f) := tabE_cons ek53 et59
/-! (*seepage/core.work).memory -/
def g54 : List Gd := []
noncomputable def E54 : PeF := S54.pe (tabE TX60) g54 false
theorem ek54 : EOk F54 E54 := Smry.pe_ok et60
noncomputable def TX61 : List (Nat × PeF) := (54, E54) :: TX60
theorem et61 : ∀ f, EOk (tabF T61 f) (tabE TX61 f) := tabE_cons ek54 et60
/-! seepage/label.Word -/
def g121 : List Gd := []
noncomputable def E121 : PeF := S121.pe (tabE TX61) g121 false
theorem ek121 : EOk F121 E121 := Smry.pe_ok et61
noncomputable def TX62 : List (Nat × PeF) := (121, E121) :: TX61
theorem et62 : ∀ f, EOk (tabF T62 f) (tabE TX62 f) := tabE_cons ek121 et61
/-! (*seepage/core.work).aim -/
def g117 : List Gd := []
noncomputable def E117 : PeF := S117.pe (tabE TX62) g117 false
theorem ek117 : EOk F117 E117 := Smry.pe_ok et62
noncomputable def TX63 : List (Nat × PeF) := (117, E117) :: TX62
theorem et63 : ∀ f, EOk (tabF T63 f) (tabE TX63 f) := tabE_cons ek117 et62
/-! (*seepage/core.work).wide -/
def g118 : List Gd := [[]]
noncomputable def E118 : PeF := S118.pe (tabE TX63) g118 false
theorem ek118 : EOk F118 E118 := Smry.pe_ok et63
noncomputable def TX64 : List (Nat × PeF) := (118, E118) :: TX63
theorem et64 : ∀ f, EOk (tabF T64 f) (tabE TX64 f) := tabE_cons ek118 et63
/-! (*seepage/core.work).page -/
def g119 : List Gd := []
noncomputable def E119 : PeF := S119.pe (tabE TX64) g119 false
theorem ek119 : EOk F119 E119 := Smry.pe_ok et64
noncomputable def TX65 : List (Nat × PeF) := (119, E119) :: TX64
theorem et65 : ∀ f, EOk (tabF T65 f) (tabE TX65 f) := tabE_cons ek119 et64
/-! (*seepage/core.work).address -/
def g94 : List Gd := [[(.v 21, false), (.v 22, false), (.v 23, true), (.v 24, true), (.v 25, true)], [(.v 19, true), (.v 21, false), (.v 22, false), (.v 25, false), (.v 40, true), (.v 41, true)], [(.v 21, false), (.v 22, false), (.v 25, false), (.v 41, false), (.v 56, true), (.v 57, true), (.v 58, true)], [(.v 21, false), (.v 22, false), (.v 25, false), (.v 41, false), (.v 58, false), (.v 84, true)], [(.v 21, false), (.v 22, false), (.v 25, false), (.v 41, false), (.v 58, false), (.v 80, false), (.v 83, false), (.v 84, false), (.v 99, true)], [(.v 21, false), (.v 22, false), (.v 25, false), (.v 41, false), (.v 58, false), (.v 80, false), (.v 83, false), (.v 84, false), (.v 99, false)]]
noncomputable def E94 : PeF := S94.pe (tabE TX65) g94 false
theorem ek94 : EOk F94 E94 := Smry.pe_ok et65
noncomputable def TX66 : List (Nat × PeF) := (94, E94) :: TX65
theorem et66 : ∀ f, EOk (tabF T66 f) (tabE TX66 f) := tabE_cons ek94 et65
/-! (*seepage/core.work).works -/
def g55 : List Gd := [[], [(.v 33, true)], [(.v 33, false), (.v 54, false), (.v 70, true)], [(.v 33, false), (.v 54, false), (.v 70, false), (.v 86, false), (.v 113, false), (.v 114, true)]]
noncomputable def E55 : PeF := S55.pe (tabE TX66) g55 true
theorem ek55 : EOk F55 E55 := Smry.pe_ok et66
noncomputable def TX67 : List (Nat × PeF) := (55, E55) :: TX66
theorem et67 : ∀ f, EOk (tabF T67 f) (tabE TX67 f) := tabE_cons ek55 et66
/-! (*seepage/core.work).far -/
def g96 : List Gd := []
noncomputable def E96 : PeF := S96.pe (tabE TX67) g96 false
theorem ek96 : EOk F96 E96 := Smry.pe_ok et67
noncomputable def TX68 : List (Nat × PeF) := (96, E96) :: TX67
theorem et68 : ∀ f, EOk (tabF T68 f) (tabE TX68 f) := tabE_cons ek96 et67
/-! (*seepage/core.work).jump -/
def g97 : List Gd := [[(.v 15, false), (.v 16, true)]]
noncomputable def E97 : PeF := S97.pe (tabE TX68) g97 false
theorem ek97 : EOk F97 E97 := Smry.pe_ok et68
noncomputable def TX69 : List (Nat × PeF) := (97, E97) :: TX68
theorem et69 : ∀ f, EOk (tabF T69 f) (tabE TX69 f) := tabE_cons ek97 et68
/-! (*seepage/core.work).call -/
def g98 : List Gd := []
noncomputable def E98 : PeF := S98.pe (tabE TX69) g98 false
theorem ek98 : EOk F98 E98 := Smry.pe_ok et69
noncomputable def TX70 : List (Nat × PeF) := (98, E98) :: TX69
theorem et70 : ∀ f, EOk (tabF T70 f) (tabE TX70 f) := tabE_cons ek98 et69
/-! (*seepage/core.work).back -/
def g99 : List Gd := []
noncomputable def E99 : PeF := S99.pe (tabE TX70) g99 false
theorem ek99 : EOk F99 E99 := Smry.pe_ok et70
noncomputable def TX71 : List (Nat × PeF) := (99, E99) :: TX70
theorem et71 : ∀ f, EOk (tabF T71 f) (tabE TX71 f) := tabE_cons ek99 et70
/-! (*seepage/core.work).interrupt -/
def g100 : List Gd := [[(.v 17, false), (.v 19, false), (.v 21, false), (.v 23, false)]]
noncomputable def E100 : PeF := S100.pe (tabE TX71) g100 false
theorem ek100 : EOk F100 E100 := Smry.pe_ok et71
noncomputable def TX72 : List (Nat × PeF) := (100, E100) :: TX71
theorem et72 : ∀ f, EOk (tabF T72 f) (tabE TX72 f) := tabE_cons ek100 et71
/-! (*seepage/core.work).control -/
def g56 : List Gd := [[(.v 15, false), (.v 29, true)], [(.v 15, false), (.v 29, false), (.v 45, true)], [(.v 15, false), (.v 29, false), (.v 45, false)], [(.v 15, false), (.v 29, false), (.v 45, false), (.v 61, false)]]
noncomputable def E56 : PeF := S56.pe (tabE TX72) g56 false
theorem ek56 : EOk F56 E56 := Smry.pe_ok et72
noncomputable def TX73 : List (Nat × PeF) := (56, E56) :: TX72
theorem et73 : ∀ f, EOk (tabF T73 f) (tabE TX73 f) := tabE_cons ek56 et72
/-! (*seepage/core.work).goes -/
def g27 : List Gd := [[(.v 15, true)], [(.v 15, false), (.v 30, true)], [(.v 15, false), (.v 30, false), (.v 47, true)], [(.v 15, false), (.v 30, false), (.v 47, false), (.v 63, true)], [(.v 15, false), (.v 30, false), (.v 47, false), (.v 63, false), (.v 82, true)], [(.v 15, false), (.v 30, false), (.v 47, false), (.v 63, false), (.v 82, false), (.v 98, false), (.v 179, true), (.v 180, true), (.v 181, true)], [(.v 15, false), (.v 30, false), (.v 47, false), (.v 63, false), (.v 82, false), (.v 98, false), (.v 181, false)]]
noncomputable def E27 : PeF := S27.pe (tabE TX73) g27 true
theorem ek27 : EOk F27 E27 := Smry.pe_ok et73
noncomputable def TX74 : List (Nat × PeF) := (27, E27) :: TX73
theorem et74 : ∀ f, EOk (tabF T74 f) (tabE TX74 f) := tabE_cons ek27 et73
/-! (*seepage/core.work).lines -/
def g28 : List Gd := []
noncomputable def E28 : PeF := S28.pe (tabE TX74) g28 false
theorem ek28 : EOk F28 E28 := Smry.pe_ok et74
noncomputable def TX75 : List (Nat × PeF) := (28, E28) :: TX74
theorem et75 : ∀ f, EOk (tabF T75 f) (tabE TX75 f) := tabE_cons ek28 et74
/-! seepage/core.Take -/
def g13 : List Gd := [[], [(.v 16, false)], [(.v 10, false), (.v 16, false)], [(.v 16, false), (.v 24, true)], [(.v 16, false), (.v 24, false)], [(.v 16, false)]]
noncomputable def E13 : PeF := S13.pe (tabE TX75) g13 true
theorem ek13 : EOk F13 E13 := Smry.pe_ok et75
noncomputable def TX76 : List (Nat × PeF) := (13, E13) :: TX75
theorem et76 : ∀ f, EOk (tabF T76 f) (tabE TX76 f) := tabE_cons ek13 et75
/-! seepage/seepagelaw10.awake -/
def g9 : List Gd := [[], [], [], [(.v 18, true)], [(.v 18, true)]]
def gl9 : List (LAnn × List Gd) := [(L100900, [[]])]
noncomputable def E9w : PeF := S9.pe (lpE gl9 12 (tabE TX76)) g9 true
theorem ek9w : EOk F9 E9w := Smry.pe_ok (lpE_ok (l := gl9) et76)
end Go.Proofs.YtalnndmnnffnmaaGreat.Cr
