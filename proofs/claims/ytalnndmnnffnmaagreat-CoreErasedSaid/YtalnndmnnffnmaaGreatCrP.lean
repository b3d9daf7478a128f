/-
  Two runs side by side: a processor, and the same one, erased. WRITTEN BY PROGRAM (wip/gen/crp.py). No condition.
-/
import Derived.Test.YtalnndmnnffnmaaGreatCrY
import Derived.Test.YtalnndmnnffnmaaGreatSxPs
set_option linter.unusedVariables false
set_option linter.unusedSimpArgs false
namespace Go.Proofs.YtalnndmnnffnmaaGreat.Cr
open Go Go.Proofs Go.Proofs.YtalnndmnnffnmaaGreat.Sx

def P25 : PF := PF.one 4 2
theorem p25 : POk F25 P25 := PF.one_ok (G := fun i => dec i.toNat)
noncomputable def TP0 : List (Nat × PF) := []
theorem pt0 : ∀ f, POk (tabF T0 f) (tabP TP0 f) := tabP_nil
noncomputable def TP1 : List (Nat × PF) := (25, P25) :: TP0
theorem pt1 : ∀ f, POk (tabF T1 f) (tabP TP1 f) := tabP_cons p25 pt0
noncomputable def P37 : PF := S37.pr (tabP TP1) false
theorem p37 : POk F37 P37 := Smry.pr_ok pt1
noncomputable def TP2 : List (Nat × PF) := (37, P37) :: TP1
theorem pt2 : ∀ f, POk (tabF T2 f) (tabP TP2 f) := tabP_cons p37 pt1
noncomputable def P15 : PF := S15.pr (tabP TP2) false
theorem p15 : POk F15 P15 := Smry.pr_ok pt2
noncomputable def TP3 : List (Nat × PF) := (15, P15) :: TP2
theorem pt3 : ∀ f, POk (tabF T3 f) (tabP TP3 f) := tabP_cons p15 pt2
noncomputable def P23 : PF := S23.pr (tabP TP3) false
theorem p23 : POk F23 P23 := Smry.pr_ok pt3
noncomputable def TP4 : List (Nat × PF) := (23, P23) :: TP3
theorem pt4 : ∀ f, POk (tabF T4 f) (tabP TP4 f) := tabP_cons p23 pt3
noncomputable def P57 : PF := S57.pr (tabP TP4) false
theorem p57 : POk F57 P57 := Smry.pr_ok pt4
noncomputable def TP5 : List (Nat × PF) := (57, P57) :: TP4
theorem pt5 : ∀ f, POk (tabF T5 f) (tabP TP5 f) := tabP_cons p57 pt4
noncomputable def P32 : PF := S32.pr (tabP TP5) false
theorem p32 : POk F32 P32 := Smry.pr_ok pt5
noncomputable def TP6 : List (Nat × PF) := (32, P32) :: TP5
theorem pt6 : ∀ f, POk (tabF T6 f) (tabP TP6 f) := tabP_cons p32 pt5
noncomputable def P58 : PF := S58.pr (tabP TP6) false
theorem p58 : POk F58 P58 := Smry.pr_ok pt6
noncomputable def TP7 : List (Nat × PF) := (58, P58) :: TP6
theorem pt7 : ∀ f, POk (tabF T7 f) (tabP TP7 f) := tabP_cons p58 pt6
noncomputable def P34 : PF := S34.pr (tabP TP7) false
theorem p34 : POk F34 P34 := Smry.pr_ok pt7
noncomputable def TP8 : List (Nat × PF) := (34, P34) :: TP7
theorem pt8 : ∀ f, POk (tabF T8 f) (tabP TP8 f) := tabP_cons p34 pt7
noncomputable def P35 : PF := S35.pr (tabP TP8) true
theorem p35 : POk F35 P35 := Smry.pr_ok pt8
noncomputable def TP9 : List (Nat × PF) := (35, P35) :: TP8
theorem pt9 : ∀ f, POk (tabF T9 f) (tabP TP9 f) := tabP_cons p35 pt8
noncomputable def P59 : PF := S59.pr (tabP TP9) true
theorem p59 : POk F59 P59 := Smry.pr_ok pt9
noncomputable def TP10 : List (Nat × PF) := (59, P59) :: TP9
theorem pt10 : ∀ f, POk (tabF T10 f) (tabP TP10 f) := tabP_cons p59 pt9
noncomputable def P95 : PF := S95.pr (tabP TP10) false
theorem p95 : POk F95 P95 := Smry.pr_ok pt10
noncomputable def TP11 : List (Nat × PF) := (95, P95) :: TP10
theorem pt11 : ∀ f, POk (tabF T11 f) (tabP TP11 f) := tabP_cons p95 pt10
noncomputable def P60 : PF := S60.pr (tabP TP11) true
theorem p60 : POk F60 P60 := Smry.pr_ok pt11
noncomputable def TP12 : List (Nat × PF) := (60, P60) :: TP11
theorem pt12 : ∀ f, POk (tabF T12 f) (tabP TP12 f) := tabP_cons p60 pt11
noncomputable def P107 : PF := S107.pr (tabP TP12) false
theorem p107 : POk F107 P107 := Smry.pr_ok pt12
noncomputable def TP13 : List (Nat × PF) := (107, P107) :: TP12
theorem pt13 : ∀ f, POk (tabF T13 f) (tabP TP13 f) := tabP_cons p107 pt12
noncomputable def P105 : PF := S105.pr (tabP TP13) false
theorem p105 : POk F105 P105 := Smry.pr_ok pt13
noncomputable def TP14 : List (Nat × PF) := (105, P105) :: TP13
theorem pt14 : ∀ f, POk (tabF T14 f) (tabP TP14 f) := tabP_cons p105 pt13
noncomputable def P103 : PF := S103.pr (tabP TP14) false
theorem p103 : POk F103 P103 := Smry.pr_ok pt14
noncomputable def TP15 : List (Nat × PF) := (103, P103) :: TP14
theorem pt15 : ∀ f, POk (tabF T15 f) (tabP TP15 f) := tabP_cons p103 pt14
noncomputable def P106 : PF := S106.pr (tabP TP15) false
theorem p106 : POk F106 P106 := Smry.pr_ok pt15
noncomputable def TP16 : List (Nat × PF) := (106, P106) :: TP15
theorem pt16 : ∀ f, POk (tabF T16 f) (tabP TP16 f) := tabP_cons p106 pt15
noncomputable def P67 : PF := S67.pr (tabP TP16) false
theorem p67 : POk F67 P67 := Smry.pr_ok pt16
noncomputable def TP17 : List (Nat × PF) := (67, P67) :: TP16
theorem pt17 : ∀ f, POk (tabF T17 f) (tabP TP17 f) := tabP_cons p67 pt16
noncomputable def P68 : PF := S68.pr (tabP TP17) false
theorem p68 : POk F68 P68 := Smry.pr_ok pt17
noncomputable def TP18 : List (Nat × PF) := (68, P68) :: TP17
theorem pt18 : ∀ f, POk (tabF T18 f) (tabP TP18 f) := tabP_cons p68 pt17
noncomputable def P108 : PF := S108.pr (tabP TP18) false
theorem p108 : POk F108 P108 := Smry.pr_ok pt18
noncomputable def TP19 : List (Nat × PF) := (108, P108) :: TP18
theorem pt19 : ∀ f, POk (tabF T19 f) (tabP TP19 f) := tabP_cons p108 pt18
noncomputable def P69 : PF := S69.pr (tabP TP19) false
theorem p69 : POk F69 P69 := Smry.pr_ok pt19
noncomputable def TP20 : List (Nat × PF) := (69, P69) :: TP19
theorem pt20 : ∀ f, POk (tabF T20 f) (tabP TP20 f) := tabP_cons p69 pt19
noncomputable def P70 : PF := S70.pr (tabP TP20) false
theorem p70 : POk F70 P70 := Smry.pr_ok pt20
noncomputable def TP21 : List (Nat × PF) := (70, P70) :: TP20
theorem pt21 : ∀ f, POk (tabF T21 f) (tabP TP21 f) := tabP_cons p70 pt20
noncomputable def P109 : PF := S109.pr (tabP TP21) false
theorem p109 : POk F109 P109 := Smry.pr_ok pt21
noncomputable def TP22 : List (Nat × PF) := (109, P109) :: TP21
theorem pt22 : ∀ f, POk (tabF T22 f) (tabP TP22 f) := tabP_cons p109 pt21
noncomputable def P71 : PF := S71.pr (tabP TP22) false
theorem p71 : POk F71 P71 := Smry.pr_ok pt22
noncomputable def TP23 : List (Nat × PF) := (71, P71) :: TP22
theorem pt23 : ∀ f, POk (tabF T23 f) (tabP TP23 f) := tabP_cons p71 pt22
noncomputable def P72 : PF := S72.pr (tabP TP23) false
theorem p72 : POk F72 P72 := Smry.pr_ok pt23
noncomputable def TP24 : List (Nat × PF) := (72, P72) :: TP23
theorem pt24 : ∀ f, POk (tabF T24 f) (tabP TP24 f) := tabP_cons p72 pt23
noncomputable def P110 : PF := S110.pr (tabP TP24) false
theorem p110 : POk F110 P110 := Smry.pr_ok pt24
noncomputable def TP25 : List (Nat × PF) := (110, P110) :: TP24
theorem pt25 : ∀ f, POk (tabF T25 f) (tabP TP25 f) := tabP_cons p110 pt24
noncomputable def P73 : PF := S73.pr (tabP TP25) false
theorem p73 : POk F73 P73 := Smry.pr_ok pt25
noncomputable def TP26 : List (Nat × PF) := (73, P73) :: TP25
theorem pt26 : ∀ f, POk (tabF T26 f) (tabP TP26 f) := tabP_cons p73 pt25
noncomputable def P111 : PF := S111.pr (tabP TP26) false
theorem p111 : POk F111 P111 := Smry.pr_ok pt26
noncomputable def TP27 : List (Nat × PF) := (111, P111) :: TP26
theorem pt27 : ∀ f, POk (tabF T27 f) (tabP TP27 f) := tabP_cons p111 pt26
noncomputable def P74 : PF := S74.pr (tabP TP27) false
theorem p74 : POk F74 P74 := Smry.pr_ok pt27
noncomputable def TP28 : List (Nat × PF) := (74, P74) :: TP27
theorem pt28 : ∀ f, POk (tabF T28 f) (tabP TP28 f) := tabP_cons p74 pt27
noncomputable def P116 : PF := S116.pr (tabP TP28) false
theorem p116 : POk F116 P116 := Smry.pr_ok pt28
noncomputable def TP29 : List (Nat × PF) := (116, P116) :: TP28
theorem pt29 : ∀ f, POk (tabF T29 f) (tabP TP29 f) := tabP_cons p116 pt28
noncomputable def P112 : PF := S112.pr (tabP TP29) false
theorem p112 : POk F112 P112 := Smry.pr_ok pt29
noncomputable def TP30 : List (Nat × PF) := (112, P112) :: TP29
theorem pt30 : ∀ f, POk (tabF T30 f) (tabP TP30 f) := tabP_cons p112 pt29
noncomputable def P75 : PF := S75.pr (tabP TP30) false
theorem p75 : POk F75 P75 := Smry.pr_ok pt30
noncomputable def TP31 : List (Nat × PF) := (75, P75) :: TP30
theorem pt31 : ∀ f, POk (tabF T31 f) (tabP TP31 f) := tabP_cons p75 pt30
noncomputable def P113 : PF := S113.pr (tabP TP31) false
theorem p113 : POk F113 P113 := Smry.pr_ok pt31
noncomputable def TP32 : List (Nat × PF) := (113, P113) :: TP31
theorem pt32 : ∀ f, POk (tabF T32 f) (tabP TP32 f) := tabP_cons p113 pt31
noncomputable def P76 : PF := S76.pr (tabP TP32) false
theorem p76 : POk F76 P76 := Smry.pr_ok pt32
noncomputable def TP33 : List (Nat × PF) := (76, P76) :: TP32
theorem pt33 : ∀ f, POk (tabF T33 f) (tabP TP33 f) := tabP_cons p76 pt32
noncomputable def P50 : PF := S50.pr (tabP TP33) true
theorem p50 : POk F50 P50 := Smry.pr_ok pt33
noncomputable def TP34 : List (Nat × PF) := (50, P50) :: TP33
theorem pt34 : ∀ f, POk (tabF T34 f) (tabP TP34 f) := tabP_cons p50 pt33
noncomputable def P36 : PF := S36.pr (tabP TP34) true
theorem p36 : POk F36 P36 := Smry.pr_ok pt34
noncomputable def TP35 : List (Nat × PF) := (36, P36) :: TP34
theorem pt35 : ∀ f, POk (tabF T35 f) (tabP TP35 f) := tabP_cons p36 pt34
noncomputable def P14 : PF := S14.pr (tabP TP35) true
theorem p14 : POk F14 P14 := Smry.pr_ok pt35
noncomputable def TP36 : List (Nat × PF) := (14, P14) :: TP35
theorem pt36 : ∀ f, POk (tabF T36 f) (tabP TP36 f) := tabP_cons p14 pt35
noncomputable def P26 : PF := S26.pr (tabP TP36) false
theorem p26 : POk F26 P26 := Smry.pr_ok pt36
noncomputable def TP37 : List (Nat × PF) := (26, P26) :: TP36
theorem pt37 : ∀ f, POk (tabF T37 f) (tabP TP37 f) := tabP_cons p26 pt36
noncomputable def P66 : PF := S66.pr (tabP TP37) false
theorem p66 : POk F66 P66 := Smry.pr_ok pt37
noncomputable def TP38 : List (Nat × PF) := (66, P66) :: TP37
theorem pt38 : ∀ f, POk (tabF T38 f) (tabP TP38 f) := tabP_cons p66 pt37
noncomputable def P49 : PF := S49.pr (tabP TP38) false
theorem p49 : POk F49 P49 := Smry.pr_ok pt38
noncomputable def TP39 : List (Nat × PF) := (49, P49) :: TP38
theorem pt39 : ∀ f, POk (tabF T39 f) (tabP TP39 f) := tabP_cons p49 pt38
noncomputable def P77 : PF := S77.pr (tabP TP39) false
theorem p77 : POk F77 P77 := Smry.pr_ok pt39
noncomputable def TP40 : List (Nat × PF) := (77, P77) :: TP39
theorem pt40 : ∀ f, POk (tabF T40 f) (tabP TP40 f) := tabP_cons p77 pt39
noncomputable def P78 : PF := S78.pr (tabP TP40) false
theorem p78 : POk F78 P78 := Smry.pr_ok pt40
noncomputable def TP41 : List (Nat × PF) := (78, P78) :: TP40
theorem pt41 : ∀ f, POk (tabF T41 f) (tabP TP41 f) := tabP_cons p78 pt40
noncomputable def P114 : PF := S114.pr (tabP TP41) false
theorem p114 : POk F114 P114 := Smry.pr_ok pt41
noncomputable def TP42 : List (Nat × PF) := (114, P114) :: TP41
theorem pt42 : ∀ f, POk (tabF T42 f) (tabP TP42 f) := tabP_cons p114 pt41
noncomputable def P79 : PF := S79.pr (tabP TP42) false
theorem p79 : POk F79 P79 := Smry.pr_ok pt42
noncomputable def TP43 : List (Nat × PF) := (79, P79) :: TP42
theorem pt43 : ∀ f, POk (tabF T43 f) (tabP TP43 f) := tabP_cons p79 pt42
noncomputable def P80 : PF := S80.pr (tabP TP43) false
theorem p80 : POk F80 P80 := Smry.pr_ok pt43
noncomputable def TP44 : List (Nat × PF) := (80, P80) :: TP43
theorem pt44 : ∀ f, POk (tabF T44 f) (tabP TP44 f) := tabP_cons p80 pt43
noncomputable def P81 : PF := S81.pr (tabP TP44) false
theorem p81 : POk F81 P81 := Smry.pr_ok pt44
noncomputable def TP45 : List (Nat × PF) := (81, P81) :: TP44
theorem pt45 : ∀ f, POk (tabF T45 f) (tabP TP45 f) := tabP_cons p81 pt44
noncomputable def P82 : PF := S82.pr (tabP TP45) false
theorem p82 : POk F82 P82 := Smry.pr_ok pt45
noncomputable def TP46 : List (Nat × PF) := (82, P82) :: TP45
theorem pt46 : ∀ f, POk (tabF T46 f) (tabP TP46 f) := tabP_cons p82 pt45
noncomputable def P83 : PF := S83.pr (tabP TP46) false
theorem p83 : POk F83 P83 := Smry.pr_ok pt46
noncomputable def TP47 : List (Nat × PF) := (83, P83) :: TP46
theorem pt47 : ∀ f, POk (tabF T47 f) (tabP TP47 f) := tabP_cons p83 pt46
noncomputable def P84 : PF := S84.pr (tabP TP47) false
theorem p84 : POk F84 P84 := Smry.pr_ok pt47
noncomputable def TP48 : List (Nat × PF) := (84, P84) :: TP47
theorem pt48 : ∀ f, POk (tabF T48 f) (tabP TP48 f) := tabP_cons p84 pt47
noncomputable def P85 : PF := S85.pr (tabP TP48) false
theorem p85 : POk F85 P85 := Smry.pr_ok pt48
noncomputable def TP49 : List (Nat × PF) := (85, P85) :: TP48
theorem pt49 : ∀ f, POk (tabF T49 f) (tabP TP49 f) := tabP_cons p85 pt48
noncomputable def P86 : PF := S86.pr (tabP TP49) false
theorem p86 : POk F86 P86 := Smry.pr_ok pt49
noncomputable def TP50 : List (Nat × PF) := (86, P86) :: TP49
theorem pt50 : ∀ f, POk (tabF T50 f) (tabP TP50 f) := tabP_cons p86 pt49
noncomputable def P115 : PF := S115.pr (tabP TP50) false
theorem p115 : POk F115 P115 := Smry.pr_ok pt50
noncomputable def TP51 : List (Nat × PF) := (115, P115) :: TP50
theorem pt51 : ∀ f, POk (tabF T51 f) (tabP TP51 f) := tabP_cons p115 pt50
noncomputable def P87 : PF := S87.pr (tabP TP51) false
theorem p87 : POk F87 P87 := Smry.pr_ok pt51
noncomputable def TP52 : List (Nat × PF) := (87, P87) :: TP51
theorem pt52 : ∀ f, POk (tabF T52 f) (tabP TP52 f) := tabP_cons p87 pt51
noncomputable def P88 : PF := S88.pr (tabP TP52) false
theorem p88 : POk F88 P88 := Smry.pr_ok pt52
noncomputable def TP53 : List (Nat × PF) := (88, P88) :: TP52
theorem pt53 : ∀ f, POk (tabF T53 f) (tabP TP53 f) := tabP_cons p88 pt52
noncomputable def P89 : PF := S89.pr (tabP TP53) false
theorem p89 : POk F89 P89 := Smry.pr_ok pt53
noncomputable def TP54 : List (Nat × PF) := (89, P89) :: TP53
theorem pt54 : ∀ f, POk (tabF T54 f) (tabP TP54 f) := tabP_cons p89 pt53
noncomputable def P90 : PF := S90.pr (tabP TP54) false
theorem p90 : POk F90 P90 := Smry.pr_ok pt54
noncomputable def TP55 : List (Nat × PF) := (90, P90) :: TP54
theorem pt55 : ∀ f, POk (tabF T55 f) (tabP TP55 f) := tabP_cons p90 pt54
noncomputable def P51 : PF := S51.pr (tabP TP55) true
theorem p51 : POk F51 P51 := Smry.pr_ok pt55
noncomputable def TP56 : List (Nat × PF) := (51, P51) :: TP55
theorem pt56 : ∀ f, POk (tabF T56 f) (tabP TP56 f) := tabP_cons p51 pt55
noncomputable def P91 : PF := S91.pr (tabP TP56) true
theorem p91 : POk F91 P91 := Smry.pr_ok pt56
noncomputable def TP57 : List (Nat × PF) := (91, P91) :: TP56
theorem pt57 : ∀ f, POk (tabF T57 f) (tabP TP57 f) := tabP_cons p91 pt56
noncomputable def P52 : PF := S52.pr (tabP TP57) true
theorem p52 : POk F52 P52 := Smry.pr_ok pt57
noncomputable def TP58 : List (Nat × PF) := (52, P52) :: TP57
theorem pt58 : ∀ f, POk (tabF T58 f) (tabP TP58 f) := tabP_cons p52 pt57
noncomputable def P93 : PF := S93.pr (tabP TP58) false
theorem p93 : POk F93 P93 := Smry.pr_ok pt58
noncomputable def TP59 : List (Nat × PF) := (93, P93) :: TP58
theorem pt59 : ∀ f, POk (tabF T59 f) (tabP TP59 f) := tabP_cons p93 pt58
noncomputable def P53 : PF := S53.pr (tabP TP59) false
theorem p53 : POk F53 P53 := Smry.pr_ok pt59
noncomputable def TP60 : List (Nat × PF) := (53, P53) :: TP59
theorem pt60 : ∀ f, POk (tabF T60 f) (tabP TP60 f) := tabP_cons p53 pt59
noncomputable def P54 : PF := S54.pr (tabP TP60) false
theorem p54 : POk F54 P54 := Smry.pr_ok pt60
noncomputable def TP61 : List (Nat × PF) := (54, P54) :: TP60
theorem pt61 : ∀ f, POk (tabF T61 f) (tabP TP61 f) := tabP_cons p54 pt60
noncomputable def P121 : PF := S121.pr (tabP TP61) false
theorem p121 : POk F121 P121 := Smry.pr_ok pt61
noncomputable def TP62 : List (Nat × PF) := (121, P121) :: TP61
theorem pt62 : ∀ f, POk (tabF T62 f) (tabP TP62 f) := tabP_cons p121 pt61
noncomputable def P117 : PF := S117.pr (tabP TP62) false
theorem p117 : POk F117 P117 := Smry.pr_ok pt62
noncomputable def TP63 : List (Nat × PF) := (117, P117) :: TP62
theorem pt63 : ∀ f, POk (tabF T63 f) (tabP TP63 f) := tabP_cons p117 pt62
noncomputable def P118 : PF := S118.pr (tabP TP63) false
theorem p118 : POk F118 P118 := Smry.pr_ok pt63
noncomputable def TP64 : List (Nat × PF) := (118, P118) :: TP63
theorem pt64 : ∀ f, POk (tabF T64 f) (tabP TP64 f) := tabP_cons p118 pt63
noncomputable def P119 : PF := S119.pr (tabP TP64) false
theorem p119 : POk F119 P119 := Smry.pr_ok pt64
noncomputable def TP65 : List (Nat × PF) := (119, P119) :: TP64
theorem pt65 : ∀ f, POk (tabF T65 f) (tabP TP65 f) := tabP_cons p119 pt64
noncomputable def P94 : PF := S94.pr (tabP TP65) false
theorem p94 : POk F94 P94 := Smry.pr_ok pt65
noncomputable def TP66 : List (Nat × PF) := (94, P94) :: TP65
theorem pt66 : ∀ f, POk (tabF T66 f) (tabP TP66 f) := tabP_cons p94 pt65
noncomputable def P55 : PF := S55.pr (tabP TP66) true
theorem p55 : POk F55 P55 := Smry.pr_ok pt66
noncomputable def TP67 : List (Nat × PF) := (55, P55) :: TP66
theorem pt67 : ∀ f, POk (tabF T67 f) (tabP TP67 f) := tabP_cons p55 pt66
noncomputable def P96 : PF := S96.pr (tabP TP67) false
theorem p96 : POk F96 P96 := Smry.pr_ok pt67
noncomputable def TP68 : List (Nat × PF) := (96, P96) :: TP67
theorem pt68 : ∀ f, POk (tabF T68 f) (tabP TP68 f) := tabP_cons p96 pt67
noncomputable def P97 : PF := S97.pr (tabP TP68) false
theorem p97 : POk F97 P97 := Smry.pr_ok pt68
noncomputable def TP69 : List (Nat × PF) := (97, P97) :: TP68
theorem pt69 : ∀ f, POk (tabF T69 f) (tabP TP69 f) := tabP_cons p97 pt68
noncomputable def P98 : PF := S98.pr (tabP TP69) false
theorem p98 : POk F98 P98 := Smry.pr_ok pt69
noncomputable def TP70 : List (Nat × PF) := (98, P98) :: TP69
theorem pt70 : ∀ f, POk (tabF T70 f) (tabP TP70 f) := tabP_cons p98 pt69
noncomputable def P99 : PF := S99.pr (tabP TP70) false
theorem p99 : POk F99 P99 := Smry.pr_ok pt70
noncomputable def TP71 : List (Nat × PF) := (99, P99) :: TP70
theorem pt71 : ∀ f, POk (tabF T71 f) (tabP TP71 f) := tabP_cons p99 pt70
noncomputable def P100 : PF := S100.pr (tabP TP71) false
theorem p100 : POk F100 P100 := Smry.pr_ok pt71
noncomputable def TP72 : List (Nat × PF) := (100, P100) :: TP71
theorem pt72 : ∀ f, POk (tabF T72 f) (tabP TP72 f) := tabP_cons p100 pt71
noncomputable def P56 : PF := S56.pr (tabP TP72) false
theorem p56 : POk F56 P56 := Smry.pr_ok pt72
noncomputable def TP73 : List (Nat × PF) := (56, P56) :: TP72
theorem pt73 : ∀ f, POk (tabF T73 f) (tabP TP73 f) := tabP_cons p56 pt72
noncomputable def P27 : PF := S27.pr (tabP TP73) true
theorem p27 : POk F27 P27 := Smry.pr_ok pt73
noncomputable def TP74 : List (Nat × PF) := (27, P27) :: TP73
theorem pt74 : ∀ f, POk (tabF T74 f) (tabP TP74 f) := tabP_cons p27 pt73
noncomputable def P28 : PF := S28.pr (tabP TP74) false
theorem p28 : POk F28 P28 := Smry.pr_ok pt74
noncomputable def TP75 : List (Nat × PF) := (28, P28) :: TP74
theorem pt75 : ∀ f, POk (tabF T75 f) (tabP TP75 f) := tabP_cons p28 pt74
/-- What the check answers where it is known that all is well. -/
def G15 : Fun := fun _ _ => ([0], [])
def Q15 : PF := PF.cst ([0], [])
theorem q15 : POk G15 Q15 := PF.cst_ok
noncomputable def G14 : Fun := S14.run (swF 15 G15 (tabF T35)) true
noncomputable def Q14 : PF := S14.pr (swP 15 Q15 (tabP TP35)) true
theorem q14 : POk G14 Q14 := Smry.pr_ok (swP_ok q15 pt35)
noncomputable def G13 : Fun := S13.run (swF 14 G14 (swF 15 G15 (tabF T75))) true
noncomputable def Q13 : PF := S13.pr (swP 14 Q14 (swP 15 Q15 (tabP TP75))) true
theorem q13 : POk G13 Q13 := Smry.pr_ok (swP_ok q14 (swP_ok q15 pt75))
theorem g14 {is : List Int} {bs : List Bool} (h1 : is.length = 13) (h2 : bs.length = 12) (h : F15 is bs = ([0], [])) : F14 is bs = G14 is bs := by
  have := Smry.run_swap (Φ := tabF T35) (Φ' := swF 15 G15 (tabF T35)) (D := [15]) (S := S14) (pre := true) (is := is) (bs := bs) (ks := []) (cs := [])
    (fun f hf => by unfold swF; rw [if_neg (by simpa using hf)])
    (fun f hf => by
      simp only [List.mem_singleton] at hf
      subst hf
      unfold swF
      rw [if_pos rfl, show tabF T35 15 = F15 by rfl, h]; rfl)
    (by rw [h1, h2]; kernel_rfl)
  rw [List.append_nil, List.append_nil] at this
  exact this
theorem g13 {is ks : List Int} {bs cs : List Bool} (h1 : is.length = 13) (h2 : bs.length = 12) (h : F15 is bs = ([0], [])) : F13 (is ++ ks) (bs ++ cs) = G13 (is ++ ks) (bs ++ cs) := by
  refine Smry.run_swap (Φ := tabF T75) (Φ' := swF 14 G14 (swF 15 G15 (tabF T75))) (D := [14, 15]) (S := S13) (pre := true)
    (fun f hf => ?_) (fun f hf => ?_) (by rw [h1, h2]; kernel_rfl)
  · simp only [List.mem_cons, List.not_mem_nil, or_false, not_or] at hf
    unfold swF
    rw [if_neg hf.1, if_neg hf.2]
  · simp only [List.mem_cons, List.not_mem_nil, or_false] at hf
    rcases hf with rfl | rfl
    · unfold swF
      rw [if_pos rfl, show tabF T75 14 = F14 by rfl]
      exact g14 h1 h2 h
    · unfold swF
      rw [if_neg (by decide), if_pos rfl, show tabF T75 15 = F15 by rfl, h]; rfl
def erI : List (Lb Int) := [Lb.eqv, Lb.eqv, Lb.eqv, Lb.eqv, Lb.eqv, ⟨false, none, some 0⟩, Lb.eqv, Lb.eqv, Lb.eqv, Lb.eqv, Lb.eqv, Lb.eqv, Lb.eqv]
def erB : List (Lb Bool) := [⟨false, none, some false⟩, ⟨false, none, some false⟩, ⟨false, none, some false⟩, ⟨false, none, some false⟩, ⟨false, none, some false⟩, ⟨false, none, some false⟩, ⟨false, none, some false⟩, Lb.eqv, Lb.eqv, Lb.eqv, ⟨false, none, some false⟩, Lb.eqv]
noncomputable def er14 : List (Lb Int) × List (Lb Bool) := Q14 erI erB
noncomputable def er13 : List (Lb Int) × List (Lb Bool) := Q13 (erI ++ [Lb.eqv]) (erB ++ [⟨false, none, some false⟩, Lb.eqv, Lb.eqv, Lb.eqv])
theorem er14_ok : ((er14.1.getD 0 Lb.top).s && (er14.1.getD 1 Lb.top).s && (er14.2.getD 1 Lb.top).s && (match (er14.2.getD 2 Lb.top).b with | some false => true | _ => false) && (match (er14.2.getD 3 Lb.top).b with | some false => true | _ => false)) = true := by kernel_rfl
theorem er13_i0 : (er13.1.getD 0 Lb.top).s = true := by kernel_rfl
theorem er13_i1 : (er13.1.getD 1 Lb.top).s = true := by kernel_rfl
theorem er13_i2 : (er13.1.getD 2 Lb.top).s = true := by kernel_rfl
theorem er13_i3 : (er13.1.getD 3 Lb.top).s = true := by kernel_rfl
theorem er13_i4 : (er13.1.getD 4 Lb.top).s = true := by kernel_rfl
theorem er13_i5 : (match (er13.1.getD 5 Lb.top).b with | some (.ofNat 0) => true | _ => false) = true := by kernel_rfl
theorem er13_i6 : (er13.1.getD 6 Lb.top).s = true := by kernel_rfl
theorem er13_i7 : (er13.1.getD 7 Lb.top).s = true := by kernel_rfl
theorem er13_i8 : (er13.1.getD 8 Lb.top).s = true := by kernel_rfl
theorem er13_i9 : (er13.1.getD 9 Lb.top).s = true := by kernel_rfl
theorem er13_i10 : (er13.1.getD 10 Lb.top).s = true := by kernel_rfl
theorem er13_i11 : (er13.1.getD 11 Lb.top).s = true := by kernel_rfl
theorem er13_i12 : (er13.1.getD 12 Lb.top).s = true := by kernel_rfl
theorem er13_b0 : (match (er13.2.getD 1 Lb.top).b with | some false => true | _ => false) = true := by kernel_rfl
theorem er13_b1 : (match (er13.2.getD 2 Lb.top).b with | some false => true | _ => false) = true := by kernel_rfl
theorem er13_b2 : (match (er13.2.getD 3 Lb.top).b with | some false => true | _ => false) = true := by kernel_rfl
theorem er13_b3 : (match (er13.2.getD 4 Lb.top).b with | some false => true | _ => false) = true := by kernel_rfl
theorem er13_b4 : (match (er13.2.getD 5 Lb.top).b with | some false => true | _ => false) = true := by kernel_rfl
theorem er13_b5 : (match (er13.2.getD 6 Lb.top).b with | some false => true | _ => false) = true := by kernel_rfl
theorem er13_b6 : (match (er13.2.getD 7 Lb.top).b with | some false => true | _ => false) = true := by kernel_rfl
theorem er13_b7 : (er13.2.getD 8 Lb.top).s = true := by kernel_rfl
theorem er13_b8 : (er13.2.getD 9 Lb.top).s = true := by kernel_rfl
theorem er13_b9 : (er13.2.getD 10 Lb.top).s = true := by kernel_rfl
theorem er13_b10 : (match (er13.2.getD 11 Lb.top).b with | some false => true | _ => false) = true := by kernel_rfl
theorem er13_b11 : (er13.2.getD 12 Lb.top).s = true := by kernel_rfl
end Go.Proofs.YtalnndmnnffnmaaGreat.Cr
