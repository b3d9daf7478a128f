/-
  Merged texts (CrS4, CrS5, CrS6, CrW, CrV, CrXa, CrX, CrY). No condition.
-/
import Derived.Test.YtalnndmnnffnmaaGreatMc3
import Derived.Test.YtalnndmnnffnmaaGreatMc5
/-! ## CrS4 -/
set_option linter.unusedVariables false
set_option linter.unusedSimpArgs false
namespace Go.Proofs.YtalnndmnnffnmaaGreat.Cr
open Go Go.Proofs Go.Proofs.YtalnndmnnffnmaaGreat.Sx
variable {m : Int}

/-! (*seepage/core.work).branch -/
def s52 : Sum := { args := [(.ptr ckl0), (.val true [(.int .u8), .bool])], tup := false, res := [(false, [.bool])], pre := true }
def S52 : Smry := (.mk [(.db 15 (.cm .eql (.v 8) (.c 1))), (.di 18 (.ar .add .u16 (.v 6) (.c 1))), (.call 91 [(.v 0), (.v 1), (.v 2), (.v 3), (.v 4), (.v 5), (.v 18), (.v 7), (.v 8), (.v 9), (.v 17), (.v 11), (.v 12), (.v 13), (.v 14), (.v 15), (.v 16)] [(.v 0), (.v 1), (.v 2), (.v 3), (.v 4), (.v 5), (.v 14), (.v 7), (.v 8), (.v 9), (.v 10), (.v 11), (.v 12), (.v 13)] 19 17 16 16), (.ob [((.v 15), true)] (.v 16)), (.db 32 (.not (.v 17))), (.db 33 (.or (.v 22) (.v 14))), (.db 34 (.not (.v 32))), (.db 35 (.ite (.v 34) (.c false) (.c true))), (.db 36 (.ite (.v 34) (.v 33) (.v 22))), (.db 37 (.cm .eql (.v 8) (.c 2))), (.db 38 (.or (.v 10) (.v 6))), (.db 39 (.or (.v 4) (.v 6))), (.di 36 (.cv .i8 (.v 10))), (.di 37 (.cv .i16 (.v 36))), (.di 38 (.cv .u16 (.v 37))), (.di 39 (.ar .add .u16 (.v 6) (.v 38))), (.di 40 (.ar .shr .u16 (.v 39) (.c 8))), (.di 41 (.ar .shr .u16 (.v 6) (.c 8))), (.db 40 (.cm .eql (.v 40) (.v 41))), (.di 42 (.ar .and .u16 (.v 6) (.c 65280))), (.di 43 (.ar .and .u16 (.v 39) (.c 255))), (.di 44 (.ar .or .u16 (.v 42) (.v 43))), (.db 41 (.not (.v 40))), (.db 42 (.ite (.v 41) (.c false) (.c true))), (.di 45 (.ite (.v 41) (.v 44) (.v 39))), (.di 46 (.ite (.v 41) (.v 39) (.v 9))), (.db 43 (.ite (.v 41) (.v 39) (.v 5))), (.db 44 (.or (.v 15) (.v 37))), (.db 45 (.ite (.v 15) (.v 35) (.v 42))), (.di 47 (.ite (.v 15) (.v 19) (.v 0))), (.db 46 (.ite (.v 15) (.v 18) (.v 0))), (.di 48 (.ite (.v 15) (.v 20) (.v 1))), (.db 47 (.ite (.v 15) (.v 19) (.v 1))), (.di 49 (.ite (.v 15) (.v 21) (.v 2))), (.db 48 (.ite (.v 15) (.v 20) (.v 2))), (.di 50 (.ite (.v 15) (.v 22) (.v 3))), (.db 49 (.ite (.v 15) (.v 21) (.v 3))), (.di 51 (.ite (.v 15) (.v 23) (.v 4))), (.di 52 (.ite (.v 15) (.v 24) (.v 5))), (.di 53 (.ite (.v 15) (.v 25) (.v 45))), (.db 50 (.ite (.v 15) (.v 36) (.v 39))), (.di 54 (.ite (.v 15) (.v 26) (.v 7))), (.di 55 (.ite (.v 15) (.v 27) (.v 8))), (.di 56 (.ite (.v 15) (.v 28) (.v 46))), (.db 51 (.ite (.v 15) (.v 23) (.v 43))), (.di 57 (.ite (.v 15) (.v 29) (.v 10))), (.db 52 (.ite (.v 15) (.v 24) (.v 6))), (.db 53 (.ite (.v 15) (.v 25) (.v 7))), (.di 58 (.ite (.v 15) (.v 30) (.v 11))), (.db 54 (.ite (.v 15) (.v 26) (.v 8))), (.db 55 (.ite (.v 15) (.v 27) (.v 9))), (.di 59 (.ite (.v 15) (.v 31) (.v 12))), (.db 56 (.ite (.v 15) (.v 28) (.v 38))), (.db 57 (.ite (.v 15) (.v 29) (.v 11))), (.di 60 (.ite (.v 15) (.v 32) (.v 13))), (.di 61 (.ite (.v 15) (.v 33) (.v 14))), (.di 62 (.ite (.v 15) (.v 34) (.v 15))), (.di 63 (.ite (.v 15) (.v 35) (.v 16))), (.db 58 (.ite (.v 15) (.v 30) (.v 12))), (.db 59 (.ite (.v 15) (.v 31) (.v 13))), (.db 60 (.or (.v 4) (.v 5))), (.db 61 (.not (.v 15))), (.db 62 (.not (.v 37))), (.db 63 (.and (.v 61) (.v 62))), (.db 64 (.or (.v 63) (.v 45))), (.di 64 (.ite (.v 63) (.v 0) (.v 47))), (.db 65 (.ite (.v 63) (.v 0) (.v 46))), (.di 65 (.ite (.v 63) (.v 1) (.v 48))), (.db 66 (.ite (.v 63) (.v 1) (.v 47))), (.di 66 (.ite (.v 63) (.v 2) (.v 49))), (.db 67 (.ite (.v 63) (.v 2) (.v 48))), (.di 67 (.ite (.v 63) (.v 3) (.v 50))), (.db 68 (.ite (.v 63) (.v 3) (.v 49))), (.di 68 (.ite (.v 63) (.v 4) (.v 51))), (.di 69 (.ite (.v 63) (.v 5) (.v 52))), (.di 70 (.ite (.v 63) (.v 9) (.v 53))), (.db 69 (.ite (.v 63) (.v 60) (.v 50))), (.di 71 (.ite (.v 63) (.v 7) (.v 54))), (.di 72 (.ite (.v 63) (.v 8) (.v 55))), (.di 73 (.ite (.v 63) (.v 9) (.v 56))), (.db 70 (.ite (.v 63) (.v 5) (.v 51))), (.di 74 (.ite (.v 63) (.v 10) (.v 57))), (.db 71 (.ite (.v 63) (.v 6) (.v 52))), (.db 72 (.ite (.v 63) (.v 7) (.v 53))), (.di 75 (.ite (.v 63) (.v 11) (.v 58))), (.db 73 (.ite (.v 63) (.v 8) (.v 54))), (.db 74 (.ite (.v 63) (.v 9) (.v 55))), (.di 76 (.ite (.v 63) (.v 12) (.v 59))), (.db 75 (.ite (.v 63) (.v 10) (.v 56))), (.db 76 (.ite (.v 63) (.v 11) (.v 57))), (.di 77 (.ite (.v 63) (.v 13) (.v 60))), (.di 78 (.ite (.v 63) (.v 14) (.v 61))), (.di 79 (.ite (.v 63) (.v 15) (.v 62))), (.di 80 (.ite (.v 63) (.v 16) (.v 63))), (.db 77 (.ite (.v 63) (.v 12) (.v 58))), (.db 78 (.ite (.v 63) (.v 13) (.v 59)))] [(.v 64), (.v 65), (.v 66), (.v 67), (.v 68), (.v 69), (.v 70), (.v 71), (.v 72), (.v 73), (.v 74), (.v 75), (.v 76), (.v 77), (.v 78), (.v 79), (.v 80)] [(.v 64), (.v 65), (.v 66), (.v 67), (.v 68), (.v 69), (.v 70), (.v 71), (.v 72), (.v 73), (.v 74), (.v 75), (.v 76), (.v 77), (.v 78)])
theorem k52 : fnX Tryz.prog (hnd Tryz.prog (gl m) inl (tabS T57)) (gl m) (ctlOf Tryz.f52 (gl m) s52) Tryz.f52 s52 = some S52 := by kernel_rfl
noncomputable def F52 : Fun := S52.run (tabF T57) true
theorem x52 : AllOk Tryz.prog (tabF T57) (gl m) (tabS T57) := A57
theorem y52 : LoopsOk (tabF T57) (ctlOf Tryz.f52 (gl m) s52) := (LoopsOk.nil rfl)
theorem z52 : (wsEm S52.em (argI s52.args) (argB s52.args) && shOk s52 && s52.pre) = true := by kernel_rfl
theorem d52 : Contract Tryz.prog (gl m) 52 s52 (S52.run (tabF T57) s52.pre) := contract_pre (hnd_ok x52 inl_ok) Tryz.func52 y52 k52 z52
theorem c52 : Contract Tryz.prog (gl m) 52 s52 F52 := d52
theorem call52 : ∀ args w, (callFunc 52 args).run Tryz.prog w = .ok (.enter 52 args) w := callable_of Tryz.func52 (by kernel_rfl) (by kernel_rfl)
noncomputable def e52 : Nat × Sum × Fun := (52, s52, F52)
noncomputable def T58 : List (Nat × Sum × Fun) := e52 :: T57
theorem A58 : AllOk Tryz.prog (tabF T58) (gl m) (tabS T58) := AllOk.cons (s := e52.2.1) c52 call52 (fun S h => by cases h) A57
/-! seepage/alu.Pull -/
def s93 : Sum := { args := [(.val true [(.int .u8), .bool])], tup := false, res := [(true, [(.int .u8), (.int .u8)])], pre := false }
def S93 : Smry := (.mk [(.di 1 (.ar .and .u8 (.v 0) (.c 207))), (.di 2 (.ite (.v 0) (.c 207) (.c 0)))] [(.v 1), (.v 2)] [])
theorem k93 : fnX Tryz.prog (hnd Tryz.prog (gl m) inl (tabS T58)) (gl m) (ctlOf Tryz.f93 (gl m) s93) Tryz.f93 s93 = some S93 := by kernel_rfl
noncomputable def F93 : Fun := S93.run (tabF T58) false
theorem x93 : AllOk Tryz.prog (tabF T58) (gl m) (tabS T58) := A58
theorem y93 : LoopsOk (tabF T58) (ctlOf Tryz.f93 (gl m) s93) := (LoopsOk.nil rfl)
theorem z93 : (wsEm S93.em (argI s93.args) (argB s93.args) && shOk s93 && noOb S93.em) = true := by kernel_rfl
theorem d93 : Contract Tryz.prog (gl m) 93 s93 (S93.run (tabF T58) s93.pre) := contract_of (hnd_ok x93 inl_ok) Tryz.func93 y93 k93 z93
theorem c93 : Contract Tryz.prog (gl m) 93 s93 F93 := d93
theorem call93 : ∀ args w, (callFunc 93 args).run Tryz.prog w = .ok (.enter 93 args) w := callable_of Tryz.func93 (by kernel_rfl) (by kernel_rfl)
noncomputable def e93 : Nat × Sum × Fun := (93, withInl s93 S93, F93)
noncomputable def T59 : List (Nat × Sum × Fun) := e93 :: T58
theorem A59 : AllOk Tryz.prog (tabF T59) (gl m) (tabS T59) := AllOk.cons (s := e93.2.1) c93 call93 (fun S h => by cases h; exact ⟨rfl, fun _ _ => rfl⟩) A58
/-! (*seepage/core.work).pulls -/
def s53 : Sum := { args := [(.ptr ckl0), (.val true [(.int .u8), .bool])], tup := false, res := [(false, [.bool])], pre := false }
def S53 : Smry := (.mk [(.db 15 (.cm .eql (.v 8) (.c 2))), (.db 16 (.cm .eql (.v 14) (.c 18))), (.db 17 (.and (.v 15) (.v 16))), (.di 18 (.ar .add .u8 (.v 3) (.c 255))), (.db 18 (.cm .eql (.v 8) (.c 2))), (.di 19 (.ar .add .u8 (.v 3) (.c 1))), (.db 19 (.cm .eql (.v 8) (.c 3))), (.db 20 (.cm .eql (.v 13) (.c 48777321098687378615337456715518223527321845979156861630892459604165144526138287440275116489449434900774837964251293259181752157305589781757952))), (.db 21 (.and (.v 19) (.v 20))), (.di 20 (.ar .and .u8 (.v 17) (.c 207))), (.di 21 (.ite (.v 14) (.c 207) (.c 0))), (.db 22 (.cm .eql (.v 8) (.c 3))), (.call 80 [(.v 0), (.v 1), (.v 2), (.v 3), (.v 4), (.v 5), (.v 6), (.v 7), (.v 8), (.v 9), (.v 10), (.v 11), (.v 12), (.v 13), (.v 14), (.v 15), (.v 16), (.v 17)] [(.v 0), (.v 1), (.v 2), (.v 3), (.v 4), (.v 5), (.v 6), (.v 7), (.v 8), (.v 9), (.v 10), (.v 11), (.v 12), (.v 13), (.v 14)] 22 17 23 14), (.db 37 (.or (.v 21) (.v 22))), (.di 39 (.ite (.v 21) (.v 0) (.v 22))), (.db 38 (.ite (.v 21) (.v 0) (.v 23))), (.di 40 (.ite (.v 21) (.v 1) (.v 23))), (.db 39 (.ite (.v 21) (.v 1) (.v 24))), (.di 41 (.ite (.v 21) (.v 2) (.v 24))), (.db 40 (.ite (.v 21) (.v 2) (.v 25))), (.di 42 (.ite (.v 21) (.v 3) (.v 25))), (.db 41 (.ite (.v 21) (.v 3) (.v 26))), (.di 43 (.ite (.v 21) (.v 20) (.v 26))), (.di 44 (.ite (.v 21) (.v 21) (.v 27))), (.di 45 (.ite (.v 21) (.v 6) (.v 28))), (.db 42 (.ite (.v 21) (.v 4) (.v 27))), (.di 46 (.ite (.v 21) (.v 7) (.v 29))), (.di 47 (.ite (.v 21) (.v 8) (.v 30))), (.di 48 (.ite (.v 21) (.v 9) (.v 31))), (.db 43 (.ite (.v 21) (.v 5) (.v 28))), (.di 49 (.ite (.v 21) (.v 10) (.v 32))), (.db 44 (.ite (.v 21) (.v 6) (.v 29))), (.db 45 (.ite (.v 21) (.v 7) (.v 30))), (.di 50 (.ite (.v 21) (.v 11) (.v 33))), (.db 46 (.ite (.v 21) (.v 8) (.v 31))), (.db 47 (.ite (.v 21) (.v 9) (.v 32))), (.di 51 (.ite (.v 21) (.v 12) (.v 34))), (.db 48 (.ite (.v 21) (.v 10) (.v 33))), (.db 49 (.ite (.v 21) (.v 11) (.v 34))), (.di 52 (.ite (.v 21) (.v 13) (.v 35))), (.di 53 (.ite (.v 21) (.v 14) (.v 36))), (.di 54 (.ite (.v 21) (.v 15) (.v 37))), (.di 55 (.ite (.v 21) (.v 16) (.v 38))), (.db 50 (.ite (.v 21) (.v 12) (.v 35))), (.db 51 (.ite (.v 21) (.v 13) (.v 36))), (.db 52 (.not (.v 21))), (.db 53 (.not (.v 22))), (.db 54 (.and (.v 52) (.v 53))), (.db 55 (.or (.v 18) (.v 54))), (.di 56 (.ite (.v 18) (.v 19) (.v 3))), (.db 56 (.not (.v 18))), (.db 57 (.and (.v 56) (.v 37))), (.db 58 (.or (.v 17) (.v 57))), (.di 57 (.ite (.v 17) (.v 0) (.v 39))), (.db 59 (.ite (.v 17) (.v 0) (.v 38))), (.di 58 (.ite (.v 17) (.v 1) (.v 40))), (.db 60 (.ite (.v 17) (.v 1) (.v 39))), (.di 59 (.ite (.v 17) (.v 2) (.v 41))), (.db 61 (.ite (.v 17) (.v 2) (.v 40))), (.di 60 (.ite (.v 17) (.v 18) (.v 42))), (.db 62 (.ite (.v 17) (.v 3) (.v 41))), (.di 61 (.ite (.v 17) (.v 4) (.v 43))), (.di 62 (.ite (.v 17) (.v 5) (.v 44))), (.di 63 (.ite (.v 17) (.v 6) (.v 45))), (.db 63 (.ite (.v 17) (.v 4) (.v 42))), (.di 64 (.ite (.v 17) (.v 7) (.v 46))), (.di 65 (.ite (.v 17) (.v 8) (.v 47))), (.di 66 (.ite (.v 17) (.v 9) (.v 48))), (.db 64 (.ite (.v 17) (.v 5) (.v 43))), (.di 67 (.ite (.v 17) (.v 10) (.v 49))), (.db 65 (.ite (.v 17) (.v 6) (.v 44))), (.db 66 (.ite (.v 17) (.v 7) (.v 45))), (.di 68 (.ite (.v 17) (.v 11) (.v 50))), (.db 67 (.ite (.v 17) (.v 8) (.v 46))), (.db 68 (.ite (.v 17) (.v 9) (.v 47))), (.di 69 (.ite (.v 17) (.v 12) (.v 51))), (.db 69 (.ite (.v 17) (.v 10) (.v 48))), (.db 70 (.ite (.v 17) (.v 11) (.v 49))), (.di 70 (.ite (.v 17) (.v 13) (.v 52))), (.di 71 (.ite (.v 17) (.v 14) (.v 53))), (.di 72 (.ite (.v 17) (.v 15) (.v 54))), (.di 73 (.ite (.v 17) (.v 16) (.v 55))), (.db 71 (.ite (.v 17) (.v 12) (.v 50))), (.db 72 (.ite (.v 17) (.v 13) (.v 51))), (.db 73 (.not (.v 17))), (.db 74 (.and (.v 73) (.v 55))), (.db 75 (.ite (.v 74) (.c false) (.c true))), (.di 74 (.ite (.v 74) (.v 0) (.v 57))), (.db 76 (.ite (.v 74) (.v 0) (.v 59))), (.di 75 (.ite (.v 74) (.v 1) (.v 58))), (.db 77 (.ite (.v 74) (.v 1) (.v 60))), (.di 76 (.ite (.v 74) (.v 2) (.v 59))), (.db 78 (.ite (.v 74) (.v 2) (.v 61))), (.di 77 (.ite (.v 74) (.v 56) (.v 60))), (.db 79 (.ite (.v 74) (.v 3) (.v 62))), (.di 78 (.ite (.v 74) (.v 4) (.v 61))), (.di 79 (.ite (.v 74) (.v 5) (.v 62))), (.di 80 (.ite (.v 74) (.v 6) (.v 63))), (.db 80 (.ite (.v 74) (.v 4) (.v 63))), (.di 81 (.ite (.v 74) (.v 7) (.v 64))), (.di 82 (.ite (.v 74) (.v 8) (.v 65))), (.di 83 (.ite (.v 74) (.v 9) (.v 66))), (.db 81 (.ite (.v 74) (.v 5) (.v 64))), (.di 84 (.ite (.v 74) (.v 10) (.v 67))), (.db 82 (.ite (.v 74) (.v 6) (.v 65))), (.db 83 (.ite (.v 74) (.v 7) (.v 66))), (.di 85 (.ite (.v 74) (.v 11) (.v 68))), (.db 84 (.ite (.v 74) (.v 8) (.v 67))), (.db 85 (.ite (.v 74) (.v 9) (.v 68))), (.di 86 (.ite (.v 74) (.v 12) (.v 69))), (.db 86 (.ite (.v 74) (.v 10) (.v 69))), (.db 87 (.ite (.v 74) (.v 11) (.v 70))), (.di 87 (.ite (.v 74) (.v 13) (.v 70))), (.di 88 (.ite (.v 74) (.v 14) (.v 71))), (.di 89 (.ite (.v 74) (.v 15) (.v 72))), (.di 90 (.ite (.v 74) (.v 16) (.v 73))), (.db 88 (.ite (.v 74) (.v 12) (.v 71))), (.db 89 (.ite (.v 74) (.v 13) (.v 72)))] [(.v 74), (.v 75), (.v 76), (.v 77), (.v 78), (.v 79), (.v 80), (.v 81), (.v 82), (.v 83), (.v 84), (.v 85), (.v 86), (.v 87), (.v 88), (.v 89), (.v 90)] [(.v 75), (.v 76), (.v 77), (.v 78), (.v 79), (.v 80), (.v 81), (.v 82), (.v 83), (.v 84), (.v 85), (.v 86), (.v 87), (.v 88), (.v 89)])
theorem k53 : fnX Tryz.prog (hnd Tryz.prog (gl m) inl (tabS T59)) (gl m) (ctlOf Tryz.f53 (gl m) s53) Tryz.f53 s53 = some S53 := by kernel_rfl
noncomputable def F53 : Fun := S53.run (tabF T59) false
theorem x53 : AllOk Tryz.prog (tabF T59) (gl m) (tabS T59) := A59
theorem y53 : LoopsOk (tabF T59) (ctlOf Tryz.f53 (gl m) s53) := (LoopsOk.nil rfl)
theorem z53 : (wsEm S53.em (argI s53.args) (argB s53.args) && shOk s53 && noOb S53.em) = true := by kernel_rfl
theorem d53 : Contract Tryz.prog (gl m) 53 s53 (S53.run (tabF T59) s53.pre) := contract_of (hnd_ok x53 inl_ok) Tryz.func53 y53 k53 z53
theorem c53 : Contract Tryz.prog (gl m) 53 s53 F53 := d53
theorem call53 : ∀ args w, (callFunc 53 args).run Tryz.prog w = .ok (.enter 53 args) w := callable_of Tryz.func53 (by kernel_rfl) (by kernel_rfl)
noncomputable def e53 : Nat × Sum × Fun := (53, s53, F53)
noncomputable def T60 : List (Nat × Sum × Fun) := e53 :: T59
theorem A60 : AllOk Tryz.prog (tabF T60) (gl m) (tabS T60) := AllOk.cons (s := e53.2.1) c53 call53 (fun S h => by cases h) A59
/-! (*seepage/core.work).memory -/
def s54 : Sum := { args := [(.ptr ckl0)], tup := false, res := [(false, [.bool])], pre := false }
def S54 : Smry := (.mk [(.db 14 (.cm .geq (.v 14) (.c 3))), (.db 15 (.cm .leq (.v 14) (.c 10))), (.db 16 (.and (.v 14) (.v 15)))] [(.v 0), (.v 1), (.v 2), (.v 3), (.v 4), (.v 5), (.v 6), (.v 7), (.v 8), (.v 9), (.v 10), (.v 11), (.v 12), (.v 13), (.v 14), (.v 15), (.v 16)] [(.v 16), (.v 0), (.v 1), (.v 2), (.v 3), (.v 4), (.v 5), (.v 6), (.v 7), (.v 8), (.v 9), (.v 10), (.v 11), (.v 12), (.v 13)])
theorem k54 : fnX Tryz.prog (hnd Tryz.prog (gl m) inl (tabS T60)) (gl m) (ctlOf Tryz.f54 (gl m) s54) Tryz.f54 s54 = some S54 := by kernel_rfl
noncomputable def F54 : Fun := S54.run (tabF T60) false
theorem x54 : AllOk Tryz.prog (tabF T60) (gl m) (tabS T60) := A60
theorem y54 : LoopsOk (tabF T60) (ctlOf Tryz.f54 (gl m) s54) := (LoopsOk.nil rfl)
theorem z54 : (wsEm S54.em (argI s54.args) (argB s54.args) && shOk s54 && noOb S54.em) = true := by kernel_rfl
theorem d54 : Contract Tryz.prog (gl m) 54 s54 (S54.run (tabF T60) s54.pre) := contract_of (hnd_ok x54 inl_ok) Tryz.func54 y54 k54 z54
theorem c54 : Contract Tryz.prog (gl m) 54 s54 F54 := d54
theorem call54 : ∀ args w, (callFunc 54 args).run Tryz.prog w = .ok (.enter 54 args) w := callable_of Tryz.func54 (by kernel_rfl) (by kernel_rfl)
noncomputable def e54 : Nat × Sum × Fun := (54, withInl s54 S54, F54)
noncomputable def T61 : List (Nat × Sum × Fun) := e54 :: T60
theorem A61 : AllOk Tryz.prog (tabF T61) (gl m) (tabS T61) := AllOk.cons (s := e54.2.1) c54 call54 (fun S h => by cases h; exact ⟨rfl, fun _ _ => rfl⟩) A60
/-! seepage/label.Word -/
def s121 : Sum := { args := [(.val true [(.int .u8), .bool]), (.val true [(.int .u8), .bool])], tup := true, res := [(false, [(.int .u16)]), (false, [.bool])], pre := false }
def S121 : Smry := (.mk [(.di 2 (.cv .u16 (.v 0))), (.di 3 (.cv .u16 (.v 1))), (.di 4 (.ar .shl .u16 (.v 3) (.c 8))), (.di 5 (.ar .or .u16 (.v 2) (.v 4))), (.db 2 (.not (.v 0))), (.db 3 (.not (.v 1))), (.db 4 (.not (.v 1))), (.db 5 (.not (.v 0))), (.db 6 (.ite (.v 5) (.v 1) (.v 0))), (.db 7 (.not (.v 0))), (.db 8 (.not (.v 1))), (.db 9 (.and (.v 7) (.v 8))), (.db 10 (.ite (.v 9) (.c false) (.c true)))] [(.v 5)] [(.v 10)])
theorem k121 : fnX Tryz.prog (hnd Tryz.prog (gl m) inl (tabS T61)) (gl m) (ctlOf Tryz.f121 (gl m) s121) Tryz.f121 s121 = some S121 := by kernel_rfl
noncomputable def F121 : Fun := S121.run (tabF T61) false
theorem x121 : AllOk Tryz.prog (tabF T61) (gl m) (tabS T61) := A61
theorem y121 : LoopsOk (tabF T61) (ctlOf Tryz.f121 (gl m) s121) := (LoopsOk.nil rfl)
theorem z121 : (wsEm S121.em (argI s121.args) (argB s121.args) && shOk s121 && noOb S121.em) = true := by kernel_rfl
theorem d121 : Contract Tryz.prog (gl m) 121 s121 (S121.run (tabF T61) s121.pre) := contract_of (hnd_ok x121 inl_ok) Tryz.func121 y121 k121 z121
theorem c121 : Contract Tryz.prog (gl m) 121 s121 F121 := d121
theorem call121 : ∀ args w, (callFunc 121 args).run Tryz.prog w = .ok (.enter 121 args) w := callable_of Tryz.func121 (by kernel_rfl) (by kernel_rfl)
noncomputable def e121 : Nat × Sum × Fun := (121, withInl s121 S121, F121)
noncomputable def T62 : List (Nat × Sum × Fun) := e121 :: T61
theorem A62 : AllOk Tryz.prog (tabF T62) (gl m) (tabS T62) := AllOk.cons (s := e121.2.1) c121 call121 (fun S h => by cases h; exact ⟨rfl, fun _ _ => rfl⟩) A61
/-! (*seepage/core.work).aim -/
def s117 : Sum := { args := [(.ptr ckl0), (.val true [(.int .u8), .bool]), (.val true [(.int .u8), .bool])], tup := true, res := [], pre := false }
def S117 : Smry := (.mk [(.di 19 (.cv .u16 (.v 17))), (.di 20 (.cv .u16 (.v 18))), (.di 21 (.ar .shl .u16 (.v 20) (.c 8))), (.di 22 (.ar .or .u16 (.v 19) (.v 21))), (.db 16 (.not (.v 14))), (.db 17 (.not (.v 15))), (.db 18 (.not (.v 15))), (.db 19 (.not (.v 14))), (.db 20 (.ite (.v 19) (.v 15) (.v 14))), (.db 21 (.not (.v 14))), (.db 22 (.not (.v 15))), (.db 23 (.and (.v 21) (.v 22))), (.db 24 (.ite (.v 23) (.c false) (.c true))), (.db 25 (.or (.v 24) (.v 5)))] [(.v 0), (.v 1), (.v 2), (.v 3), (.v 4), (.v 5), (.v 6), (.v 7), (.v 8), (.v 22), (.v 10), (.v 11), (.v 12), (.v 13), (.v 14), (.v 15), (.v 16)] [(.v 0), (.v 1), (.v 2), (.v 3), (.v 4), (.v 25), (.v 6), (.v 7), (.v 8), (.v 9), (.v 10), (.v 11), (.v 12), (.v 13)])
theorem k117 : fnX Tryz.prog (hnd Tryz.prog (gl m) inl (tabS T62)) (gl m) (ctlOf Tryz.f117 (gl m) s117) Tryz.f117 s117 = some S117 := by kernel_rfl
noncomputable def F117 : Fun := S117.run (tabF T62) false
theorem x117 : AllOk Tryz.prog (tabF T62) (gl m) (tabS T62) := A62
theorem y117 : LoopsOk (tabF T62) (ctlOf Tryz.f117 (gl m) s117) := (LoopsOk.nil rfl)
theorem z117 : (wsEm S117.em (argI s117.args) (argB s117.args) && shOk s117 && noOb S117.em) = true := by kernel_rfl
theorem d117 : Contract Tryz.prog (gl m) 117 s117 (S117.run (tabF T62) s117.pre) := contract_of (hnd_ok x117 inl_ok) Tryz.func117 y117 k117 z117
theorem c117 : Contract Tryz.prog (gl m) 117 s117 F117 := d117
theorem call117 : ∀ args w, (callFunc 117 args).run Tryz.prog w = .ok (.enter 117 args) w := callable_of Tryz.func117 (by kernel_rfl) (by kernel_rfl)
noncomputable def e117 : Nat × Sum × Fun := (117, s117, F117)
noncomputable def T63 : List (Nat × Sum × Fun) := e117 :: T62
theorem A63 : AllOk Tryz.prog (tabF T63) (gl m) (tabS T63) := AllOk.cons (s := e117.2.1) c117 call117 (fun S h => by cases h) A62
/-! (*seepage/core.work).wide -/
def s118 : Sum := { args := [(.ptr ckl0), (.val true [(.int .u8), .bool]), (.val true [(.int .u8), .bool])], tup := true, res := [], pre := false }
def S118 : Smry := (.mk [(.db 16 (.cm .eql (.v 14) (.c 5))), (.db 17 (.cm .eql (.v 14) (.c 8))), (.db 18 (.cm .eql (.v 14) (.c 10))), (.db 19 (.ite (.v 17) (.v 17) (.v 18))), (.db 20 (.ite (.v 16) (.v 16) (.v 19))), (.db 21 (.not (.v 20))), (.di 19 (.ite (.v 21) (.v 1) (.v 2))), (.db 22 (.ite (.v 21) (.v 1) (.v 2))), (.di 20 (.cv .u16 (.v 17))), (.di 21 (.cv .u16 (.v 19))), (.di 22 (.ar .add .u16 (.v 20) (.v 21))), (.db 23 (.cm .gtr (.v 22) (.c 255))), (.di 23 (.cv .u8 (.v 22))), (.db 24 (.not (.v 14))), (.db 25 (.not (.v 22))), (.db 26 (.not (.v 22))), (.db 27 (.not (.v 14))), (.db 28 (.ite (.v 27) (.v 22) (.v 14))), (.db 29 (.not (.v 14))), (.db 30 (.not (.v 22))), (.db 31 (.and (.v 29) (.v 30))), (.db 32 (.ite (.v 31) (.c false) (.c true))), (.call 117 [(.v 0), (.v 1), (.v 2), (.v 3), (.v 4), (.v 5), (.v 6), (.v 7), (.v 8), (.v 9), (.v 10), (.v 11), (.v 12), (.v 13), (.v 14), (.v 15), (.v 16), (.v 23), (.v 18)] [(.v 0), (.v 1), (.v 2), (.v 3), (.v 4), (.v 5), (.v 6), (.v 23), (.v 8), (.v 9), (.v 10), (.v 11), (.v 12), (.v 13), (.v 32), (.v 15)] 24 17 33 14)] [(.v 24), (.v 25), (.v 26), (.v 27), (.v 28), (.v 29), (.v 30), (.v 31), (.v 32), (.v 33), (.v 34), (.v 35), (.v 36), (.v 37), (.v 38), (.v 39), (.v 40)] [(.v 33), (.v 34), (.v 35), (.v 36), (.v 37), (.v 38), (.v 39), (.v 40), (.v 41), (.v 42), (.v 43), (.v 44), (.v 45), (.v 46)])
theorem k118 : fnX Tryz.prog (hnd Tryz.prog (gl m) inl (tabS T63)) (gl m) (ctlOf Tryz.f118 (gl m) s118) Tryz.f118 s118 = some S118 := by kernel_rfl
noncomputable def F118 : Fun := S118.run (tabF T63) false
theorem x118 : AllOk Tryz.prog (tabF T63) (gl m) (tabS T63) := A63
theorem y118 : LoopsOk (tabF T63) (ctlOf Tryz.f118 (gl m) s118) := (LoopsOk.nil rfl)
theorem z118 : (wsEm S118.em (argI s118.args) (argB s118.args) && shOk s118 && noOb S118.em) = true := by kernel_rfl
theorem d118 : Contract Tryz.prog (gl m) 118 s118 (S118.run (tabF T63) s118.pre) := contract_of (hnd_ok x118 inl_ok) Tryz.func118 y118 k118 z118
theorem c118 : Contract Tryz.prog (gl m) 118 s118 F118 := d118
theorem call118 : ∀ args w, (callFunc 118 args).run Tryz.prog w = .ok (.enter 118 args) w := callable_of Tryz.func118 (by kernel_rfl) (by kernel_rfl)
noncomputable def e118 : Nat × Sum × Fun := (118, s118, F118)
noncomputable def T64 : List (Nat × Sum × Fun) := e118 :: T63
theorem A64 : AllOk Tryz.prog (tabF T64) (gl m) (tabS T64) := AllOk.cons (s := e118.2.1) c118 call118 (fun S h => by cases h) A63
/-! (*seepage/core.work).page -/
def s119 : Sum := { args := [(.ptr ckl0), (.val true [(.int .u8), .bool])], tup := true, res := [], pre := false }
def S119 : Smry := (.mk [(.di 18 (.cv .u16 (.v 17))), (.di 19 (.ar .add .u16 (.v 9) (.v 18))), (.di 20 (.ar .and .u16 (.v 19) (.c 255))), (.db 15 (.or (.v 5) (.v 14)))] [(.v 0), (.v 1), (.v 2), (.v 3), (.v 4), (.v 5), (.v 6), (.v 7), (.v 8), (.v 20), (.v 10), (.v 11), (.v 12), (.v 13), (.v 14), (.v 15), (.v 16)] [(.v 0), (.v 1), (.v 2), (.v 3), (.v 4), (.v 15), (.v 6), (.v 7), (.v 8), (.v 9), (.v 10), (.v 11), (.v 12), (.v 13)])
theorem k119 : fnX Tryz.prog (hnd Tryz.prog (gl m) inl (tabS T64)) (gl m) (ctlOf Tryz.f119 (gl m) s119) Tryz.f119 s119 = some S119 := by kernel_rfl
noncomputable def F119 : Fun := S119.run (tabF T64) false
theorem x119 : AllOk Tryz.prog (tabF T64) (gl m) (tabS T64) := A64
theorem y119 : LoopsOk (tabF T64) (ctlOf Tryz.f119 (gl m) s119) := (LoopsOk.nil rfl)
theorem z119 : (wsEm S119.em (argI s119.args) (argB s119.args) && shOk s119 && noOb S119.em) = true := by kernel_rfl
theorem d119 : Contract Tryz.prog (gl m) 119 s119 (S119.run (tabF T64) s119.pre) := contract_of (hnd_ok x119 inl_ok) Tryz.func119 y119 k119 z119
theorem c119 : Contract Tryz.prog (gl m) 119 s119 F119 := d119
theorem call119 : ∀ args w, (callFunc 119 args).run Tryz.prog w = .ok (.enter 119 args) w := callable_of Tryz.func119 (by kernel_rfl) (by kernel_rfl)
noncomputable def e119 : Nat × Sum × Fun := (119, s119, F119)
noncomputable def T65 : List (Nat × Sum × Fun) := e119 :: T64
theorem A65 : AllOk Tryz.prog (tabF T65) (gl m) (tabS T65) := AllOk.cons (s := e119.2.1) c119 call119 (fun S h => by cases h) A64
/-! (*seepage/core.work).address -/
def s94 : Sum := { args := [(.ptr ckl0), (.val true [(.int .u8), .bool])], tup := true, res := [], pre := false }
def S94 : Smry := (.mk [(.db 15 (.cm .eql (.v 14) (.c 6))), (.db 16 (.cm .eql (.v 14) (.c 7))), (.db 17 (.or (.v 15) (.v 16))), (.db 18 (.cm .eql (.v 14) (.c 8))), (.db 19 (.or (.v 17) (.v 18))), (.db 20 (.cm .eql (.v 8) (.c 1))), (.db 21 (.and (.v 20) (.v 19))), (.di 18 (.ar .add .u16 (.v 6) (.c 1))), (.db 22 (.cm .eql (.v 8) (.c 1))), (.di 19 (.ar .add .u16 (.v 6) (.c 1))), (.di 20 (.cv .u16 (.v 17))), (.db 23 (.cm .eql (.v 8) (.c 2))), (.db 24 (.cm .eql (.v 14) (.c 6))), (.db 25 (.and (.v 23) (.v 24))), (.di 21 (.ar .add .u16 (.v 6) (.c 1))), (.call 117 [(.v 0), (.v 1), (.v 2), (.v 3), (.v 4), (.v 5), (.v 21), (.v 7), (.v 8), (.v 9), (.v 10), (.v 11), (.v 12), (.v 13), (.v 14), (.v 15), (.v 16), (.v 10), (.v 17)] [(.v 0), (.v 1), (.v 2), (.v 3), (.v 4), (.c false), (.v 6), (.v 7), (.v 8), (.v 9), (.v 10), (.v 11), (.v 12), (.v 13), (.v 6), (.v 14)] 22 17 26 14), (.db 40 (.cm .eql (.v 8) (.c 2))), (.db 41 (.and (.v 40) (.v 19))), (.di 39 (.ar .add .u16 (.v 6) (.c 1))), (.call 118 [(.v 0), (.v 1), (.v 2), (.v 3), (.v 4), (.v 5), (.v 39), (.v 7), (.v 8), (.v 9), (.v 10), (.v 11), (.v 12), (.v 13), (.v 14), (.v 15), (.v 16), (.v 10), (.v 17)] [(.v 0), (.v 1), (.v 2), (.v 3), (.v 4), (.c false), (.v 6), (.v 7), (.v 8), (.v 9), (.v 10), (.v 11), (.v 12), (.v 13), (.v 6), (.v 14)] 40 17 42 14), (.db 56 (.cm .eql (.v 8) (.c 2))), (.db 57 (.cm .neq (.v 14) (.c 10))), (.db 58 (.and (.v 56) (.v 57))), (.db 59 (.cm .eql (.v 14) (.c 5))), (.db 60 (.cm .eql (.v 14) (.c 8))), (.db 61 (.cm .eql (.v 14) (.c 10))), (.db 62 (.ite (.v 60) (.v 60) (.v 61))), (.db 63 (.ite (.v 59) (.v 59) (.v 62))), (.db 64 (.not (.v 63))), (.di 57 (.ite (.v 64) (.v 1) (.v 2))), (.db 65 (.ite (.v 64) (.v 1) (.v 2))), (.call 119 [(.v 0), (.v 1), (.v 2), (.v 3), (.v 4), (.v 5), (.v 6), (.v 7), (.v 8), (.v 9), (.v 10), (.v 11), (.v 12), (.v 13), (.v 14), (.v 15), (.v 16), (.v 57)] [(.v 0), (.v 1), (.v 2), (.v 3), (.v 4), (.v 5), (.v 6), (.v 7), (.v 8), (.v 9), (.v 10), (.v 11), (.v 12), (.v 13), (.v 65)] 58 17 66 14), (.db 80 (.cm .eql (.v 8) (.c 2))), (.db 81 (.cm .eql (.v 8) (.c 3))), (.db 82 (.cm .eql (.v 14) (.c 9))), (.db 83 (.and (.v 81) (.v 82))), (.db 84 (.or (.v 80) (.v 83))), (.call 119 [(.v 0), (.v 1), (.v 2), (.v 3), (.v 4), (.v 5), (.v 6), (.v 7), (.v 8), (.v 9), (.v 17), (.v 11), (.v 12), (.v 13), (.v 14), (.v 15), (.v 16), (.c 1)] [(.v 0), (.v 1), (.v 2), (.v 3), (.v 4), (.v 5), (.v 14), (.v 7), (.v 8), (.v 9), (.v 10), (.v 11), (.v 12), (.v 13), (.c false)] 75 17 85 14), (.db 99 (.cm .eql (.v 8) (.c 3))), (.call 118 [(.v 0), (.v 1), (.v 2), (.v 3), (.v 4), (.v 5), (.v 6), (.v 7), (.v 8), (.v 9), (.v 10), (.v 11), (.v 12), (.v 13), (.v 14), (.v 15), (.v 16), (.v 10), (.v 17)] [(.v 0), (.v 1), (.v 2), (.v 3), (.v 4), (.v 5), (.v 6), (.v 7), (.v 8), (.v 9), (.v 10), (.v 11), (.v 12), (.v 13), (.v 6), (.v 14)] 92 17 100 14), (.call 117 [(.v 0), (.v 1), (.v 2), (.v 3), (.v 4), (.v 5), (.v 6), (.v 7), (.v 8), (.v 9), (.v 10), (.v 11), (.v 12), (.v 13), (.v 14), (.v 15), (.v 16), (.v 10), (.v 17)] [(.v 0), (.v 1), (.v 2), (.v 3), (.v 4), (.v 5), (.v 6), (.v 7), (.v 8), (.v 9), (.v 10), (.v 11), (.v 12), (.v 13), (.v 6), (.v 14)] 109 17 114 14), (.di 126 (.ite (.v 99) (.v 92) (.v 109))), (.db 128 (.ite (.v 99) (.v 100) (.v 114))), (.di 127 (.ite (.v 99) (.v 93) (.v 110))), (.db 129 (.ite (.v 99) (.v 101) (.v 115))), (.di 128 (.ite (.v 99) (.v 94) (.v 111))), (.db 130 (.ite (.v 99) (.v 102) (.v 116))), (.di 129 (.ite (.v 99) (.v 95) (.v 112))), (.db 131 (.ite (.v 99) (.v 103) (.v 117))), (.di 130 (.ite (.v 99) (.v 96) (.v 113))), (.di 131 (.ite (.v 99) (.v 97) (.v 114))), (.di 132 (.ite (.v 99) (.v 98) (.v 115))), (.db 132 (.ite (.v 99) (.v 104) (.v 118))), (.di 133 (.ite (.v 99) (.v 99) (.v 116))), (.di 134 (.ite (.v 99) (.v 100) (.v 117))), (.di 135 (.ite (.v 99) (.v 101) (.v 118))), (.db 133 (.ite (.v 99) (.v 105) (.v 119))), (.di 136 (.ite (.v 99) (.v 102) (.v 119))), (.db 134 (.ite (.v 99) (.v 106) (.v 120))), (.db 135 (.ite (.v 99) (.v 107) (.v 121))), (.di 137 (.ite (.v 99) (.v 103) (.v 120))), (.db 136 (.ite (.v 99) (.v 108) (.v 122))), (.db 137 (.ite (.v 99) (.v 109) (.v 123))), (.di 138 (.ite (.v 99) (.v 104) (.v 121))), (.db 138 (.ite (.v 99) (.v 110) (.v 124))), (.db 139 (.ite (.v 99) (.v 111) (.v 125))), (.di 139 (.ite (.v 99) (.v 105) (.v 122))), (.di 140 (.ite (.v 99) (.v 106) (.v 123))), (.di 141 (.ite (.v 99) (.v 107) (.v 124))), (.di 142 (.ite (.v 99) (.v 108) (.v 125))), (.db 140 (.ite (.v 99) (.v 112) (.v 126))), (.db 141 (.ite (.v 99) (.v 113) (.v 127))), (.di 143 (.ite (.v 84) (.v 75) (.v 126))), (.db 142 (.ite (.v 84) (.v 85) (.v 128))), (.di 144 (.ite (.v 84) (.v 76) (.v 127))), (.db 143 (.ite (.v 84) (.v 86) (.v 129))), (.di 145 (.ite (.v 84) (.v 77) (.v 128))), (.db 144 (.ite (.v 84) (.v 87) (.v 130))), (.di 146 (.ite (.v 84) (.v 78) (.v 129))), (.db 145 (.ite (.v 84) (.v 88) (.v 131))), (.di 147 (.ite (.v 84) (.v 79) (.v 130))), (.di 148 (.ite (.v 84) (.v 80) (.v 131))), (.di 149 (.ite (.v 84) (.v 81) (.v 132))), (.db 146 (.ite (.v 84) (.v 89) (.v 132))), (.di 150 (.ite (.v 84) (.v 82) (.v 133))), (.di 151 (.ite (.v 84) (.v 83) (.v 134))), (.di 152 (.ite (.v 84) (.v 84) (.v 135))), (.db 147 (.ite (.v 84) (.v 90) (.v 133))), (.di 153 (.ite (.v 84) (.v 85) (.v 136))), (.db 148 (.ite (.v 84) (.v 91) (.v 134))), (.db 149 (.ite (.v 84) (.v 92) (.v 135))), (.di 154 (.ite (.v 84) (.v 86) (.v 137))), (.db 150 (.ite (.v 84) (.v 93) (.v 136))), (.db 151 (.ite (.v 84) (.v 94) (.v 137))), (.di 155 (.ite (.v 84) (.v 87) (.v 138))), (.db 152 (.ite (.v 84) (.v 95) (.v 138))), (.db 153 (.ite (.v 84) (.v 96) (.v 139))), (.di 156 (.ite (.v 84) (.v 88) (.v 139))), (.di 157 (.ite (.v 84) (.v 89) (.v 140))), (.di 158 (.ite (.v 84) (.v 90) (.v 141))), (.di 159 (.ite (.v 84) (.v 91) (.v 142))), (.db 154 (.ite (.v 84) (.v 97) (.v 140))), (.db 155 (.ite (.v 84) (.v 98) (.v 141))), (.di 160 (.ite (.v 58) (.v 58) (.v 143))), (.db 156 (.ite (.v 58) (.v 66) (.v 142))), (.di 161 (.ite (.v 58) (.v 59) (.v 144))), (.db 157 (.ite (.v 58) (.v 67) (.v 143))), (.di 162 (.ite (.v 58) (.v 60) (.v 145))), (.db 158 (.ite (.v 58) (.v 68) (.v 144))), (.di 163 (.ite (.v 58) (.v 61) (.v 146))), (.db 159 (.ite (.v 58) (.v 69) (.v 145))), (.di 164 (.ite (.v 58) (.v 62) (.v 147))), (.di 165 (.ite (.v 58) (.v 63) (.v 148))), (.di 166 (.ite (.v 58) (.v 64) (.v 149))), (.db 160 (.ite (.v 58) (.v 70) (.v 146))), (.di 167 (.ite (.v 58) (.v 65) (.v 150))), (.di 168 (.ite (.v 58) (.v 66) (.v 151))), (.di 169 (.ite (.v 58) (.v 67) (.v 152))), (.db 161 (.ite (.v 58) (.v 71) (.v 147))), (.di 170 (.ite (.v 58) (.v 68) (.v 153))), (.db 162 (.ite (.v 58) (.v 72) (.v 148))), (.db 163 (.ite (.v 58) (.v 73) (.v 149))), (.di 171 (.ite (.v 58) (.v 69) (.v 154))), (.db 164 (.ite (.v 58) (.v 74) (.v 150))), (.db 165 (.ite (.v 58) (.v 75) (.v 151))), (.di 172 (.ite (.v 58) (.v 70) (.v 155))), (.db 166 (.ite (.v 58) (.v 76) (.v 152))), (.db 167 (.ite (.v 58) (.v 77) (.v 153))), (.di 173 (.ite (.v 58) (.v 71) (.v 156))), (.di 174 (.ite (.v 58) (.v 72) (.v 157))), (.di 175 (.ite (.v 58) (.v 73) (.v 158))), (.di 176 (.ite (.v 58) (.v 74) (.v 159))), (.db 168 (.ite (.v 58) (.v 78) (.v 154))), (.db 169 (.ite (.v 58) (.v 79) (.v 155))), (.di 177 (.ite (.v 41) (.v 40) (.v 160))), (.db 170 (.ite (.v 41) (.v 42) (.v 156))), (.di 178 (.ite (.v 41) (.v 41) (.v 161))), (.db 171 (.ite (.v 41) (.v 43) (.v 157))), (.di 179 (.ite (.v 41) (.v 42) (.v 162))), (.db 172 (.ite (.v 41) (.v 44) (.v 158))), (.di 180 (.ite (.v 41) (.v 43) (.v 163))), (.db 173 (.ite (.v 41) (.v 45) (.v 159))), (.di 181 (.ite (.v 41) (.v 44) (.v 164))), (.di 182 (.ite (.v 41) (.v 45) (.v 165))), (.di 183 (.ite (.v 41) (.v 46) (.v 166))), (.db 174 (.ite (.v 41) (.v 46) (.v 160))), (.di 184 (.ite (.v 41) (.v 47) (.v 167))), (.di 185 (.ite (.v 41) (.v 48) (.v 168))), (.di 186 (.ite (.v 41) (.v 49) (.v 169))), (.db 175 (.ite (.v 41) (.v 47) (.v 161))), (.di 187 (.ite (.v 41) (.v 50) (.v 170))), (.db 176 (.ite (.v 41) (.v 48) (.v 162))), (.db 177 (.ite (.v 41) (.v 49) (.v 163))), (.di 188 (.ite (.v 41) (.v 51) (.v 171))), (.db 178 (.ite (.v 41) (.v 50) (.v 164))), (.db 179 (.ite (.v 41) (.v 51) (.v 165))), (.di 189 (.ite (.v 41) (.v 52) (.v 172))), (.db 180 (.ite (.v 41) (.v 52) (.v 166))), (.db 181 (.ite (.v 41) (.v 53) (.v 167))), (.di 190 (.ite (.v 41) (.v 53) (.v 173))), (.di 191 (.ite (.v 41) (.v 54) (.v 174))), (.di 192 (.ite (.v 41) (.v 55) (.v 175))), (.di 193 (.ite (.v 41) (.v 56) (.v 176))), (.db 182 (.ite (.v 41) (.v 54) (.v 168))), (.db 183 (.ite (.v 41) (.v 55) (.v 169))), (.di 194 (.ite (.v 25) (.v 22) (.v 177))), (.db 184 (.ite (.v 25) (.v 26) (.v 170))), (.di 195 (.ite (.v 25) (.v 23) (.v 178))), (.db 185 (.ite (.v 25) (.v 27) (.v 171))), (.di 196 (.ite (.v 25) (.v 24) (.v 179))), (.db 186 (.ite (.v 25) (.v 28) (.v 172))), (.di 197 (.ite (.v 25) (.v 25) (.v 180))), (.db 187 (.ite (.v 25) (.v 29) (.v 173))), (.di 198 (.ite (.v 25) (.v 26) (.v 181))), (.di 199 (.ite (.v 25) (.v 27) (.v 182))), (.di 200 (.ite (.v 25) (.v 28) (.v 183))), (.db 188 (.ite (.v 25) (.v 30) (.v 174))), (.di 201 (.ite (.v 25) (.v 29) (.v 184))), (.di 202 (.ite (.v 25) (.v 30) (.v 185))), (.di 203 (.ite (.v 25) (.v 31) (.v 186))), (.db 189 (.ite (.v 25) (.v 31) (.v 175))), (.di 204 (.ite (.v 25) (.v 32) (.v 187))), (.db 190 (.ite (.v 25) (.v 32) (.v 176))), (.db 191 (.ite (.v 25) (.v 33) (.v 177))), (.di 205 (.ite (.v 25) (.v 33) (.v 188))), (.db 192 (.ite (.v 25) (.v 34) (.v 178))), (.db 193 (.ite (.v 25) (.v 35) (.v 179))), (.di 206 (.ite (.v 25) (.v 34) (.v 189))), (.db 194 (.ite (.v 25) (.v 36) (.v 180))), (.db 195 (.ite (.v 25) (.v 37) (.v 181))), (.di 207 (.ite (.v 25) (.v 35) (.v 190))), (.di 208 (.ite (.v 25) (.v 36) (.v 191))), (.di 209 (.ite (.v 25) (.v 37) (.v 192))), (.di 210 (.ite (.v 25) (.v 38) (.v 193))), (.db 196 (.ite (.v 25) (.v 38) (.v 182))), (.db 197 (.ite (.v 25) (.v 39) (.v 183))), (.di 211 (.ite (.v 22) (.v 0) (.v 194))), (.db 198 (.ite (.v 22) (.v 0) (.v 184))), (.di 212 (.ite (.v 22) (.v 1) (.v 195))), (.db 199 (.ite (.v 22) (.v 1) (.v 185))), (.di 213 (.ite (.v 22) (.v 2) (.v 196))), (.db 200 (.ite (.v 22) (.v 2) (.v 186))), (.di 214 (.ite (.v 22) (.v 3) (.v 197))), (.db 201 (.ite (.v 22) (.v 3) (.v 187))), (.di 215 (.ite (.v 22) (.v 4) (.v 198))), (.di 216 (.ite (.v 22) (.v 5) (.v 199))), (.di 217 (.ite (.v 22) (.v 19) (.v 200))), (.db 202 (.ite (.v 22) (.v 4) (.v 188))), (.di 218 (.ite (.v 22) (.v 7) (.v 201))), (.di 219 (.ite (.v 22) (.v 8) (.v 202))), (.di 220 (.ite (.v 22) (.v 20) (.v 203))), (.db 203 (.ite (.v 22) (.v 14) (.v 189))), (.di 221 (.ite (.v 22) (.v 10) (.v 204))), (.db 204 (.ite (.v 22) (.v 6) (.v 190))), (.db 205 (.ite (.v 22) (.v 7) (.v 191))), (.di 222 (.ite (.v 22) (.v 11) (.v 205))), (.db 206 (.ite (.v 22) (.v 8) (.v 192))), (.db 207 (.ite (.v 22) (.v 9) (.v 193))), (.di 223 (.ite (.v 22) (.v 12) (.v 206))), (.db 208 (.ite (.v 22) (.v 10) (.v 194))), (.db 209 (.ite (.v 22) (.v 11) (.v 195))), (.di 224 (.ite (.v 22) (.v 13) (.v 207))), (.di 225 (.ite (.v 22) (.v 14) (.v 208))), (.di 226 (.ite (.v 22) (.v 15) (.v 209))), (.di 227 (.ite (.v 22) (.v 16) (.v 210))), (.db 210 (.ite (.v 22) (.v 12) (.v 196))), (.db 211 (.ite (.v 22) (.v 13) (.v 197))), (.di 228 (.ite (.v 21) (.v 0) (.v 211))), (.db 212 (.ite (.v 21) (.v 0) (.v 198))), (.di 229 (.ite (.v 21) (.v 1) (.v 212))), (.db 213 (.ite (.v 21) (.v 1) (.v 199))), (.di 230 (.ite (.v 21) (.v 2) (.v 213))), (.db 214 (.ite (.v 21) (.v 2) (.v 200))), (.di 231 (.ite (.v 21) (.v 3) (.v 214))), (.db 215 (.ite (.v 21) (.v 3) (.v 201))), (.di 232 (.ite (.v 21) (.v 4) (.v 215))), (.di 233 (.ite (.v 21) (.v 5) (.v 216))), (.di 234 (.ite (.v 21) (.v 18) (.v 217))), (.db 216 (.ite (.v 21) (.v 4) (.v 202))), (.di 235 (.ite (.v 21) (.v 7) (.v 218))), (.di 236 (.ite (.v 21) (.v 8) (.v 219))), (.di 237 (.ite (.v 21) (.v 9) (.v 220))), (.db 217 (.ite (.v 21) (.v 5) (.v 203))), (.di 238 (.ite (.v 21) (.v 17) (.v 221))), (.db 218 (.ite (.v 21) (.v 14) (.v 204))), (.db 219 (.ite (.v 21) (.v 7) (.v 205))), (.di 239 (.ite (.v 21) (.v 11) (.v 222))), (.db 220 (.ite (.v 21) (.v 8) (.v 206))), (.db 221 (.ite (.v 21) (.v 9) (.v 207))), (.di 240 (.ite (.v 21) (.v 12) (.v 223))), (.db 222 (.ite (.v 21) (.v 10) (.v 208))), (.db 223 (.ite (.v 21) (.v 11) (.v 209))), (.di 241 (.ite (.v 21) (.v 13) (.v 224))), (.di 242 (.ite (.v 21) (.v 14) (.v 225))), (.di 243 (.ite (.v 21) (.v 15) (.v 226))), (.di 244 (.ite (.v 21) (.v 16) (.v 227))), (.db 224 (.ite (.v 21) (.v 12) (.v 210))), (.db 225 (.ite (.v 21) (.v 13) (.v 211)))] [(.v 228), (.v 229), (.v 230), (.v 231), (.v 232), (.v 233), (.v 234), (.v 235), (.v 236), (.v 237), (.v 238), (.v 239), (.v 240), (.v 241), (.v 242), (.v 243), (.v 244)] [(.v 212), (.v 213), (.v 214), (.v 215), (.v 216), (.v 217), (.v 218), (.v 219), (.v 220), (.v 221), (.v 222), (.v 223), (.v 224), (.v 225)])
theorem k94 : fnX Tryz.prog (hnd Tryz.prog (gl m) inl (tabS T65)) (gl m) (ctlOf Tryz.f94 (gl m) s94) Tryz.f94 s94 = some S94 := by kernel_rfl
noncomputable def F94 : Fun := S94.run (tabF T65) false
theorem x94 : AllOk Tryz.prog (tabF T65) (gl m) (tabS T65) := A65
theorem y94 : LoopsOk (tabF T65) (ctlOf Tryz.f94 (gl m) s94) := (LoopsOk.nil rfl)
theorem z94 : (wsEm S94.em (argI s94.args) (argB s94.args) && shOk s94 && noOb S94.em) = true := by kernel_rfl
theorem d94 : Contract Tryz.prog (gl m) 94 s94 (S94.run (tabF T65) s94.pre) := contract_of (hnd_ok x94 inl_ok) Tryz.func94 y94 k94 z94
theorem c94 : Contract Tryz.prog (gl m) 94 s94 F94 := d94
theorem call94 : ∀ args w, (callFunc 94 args).run Tryz.prog w = .ok (.enter 94 args) w := callable_of Tryz.func94 (by kernel_rfl) (by kernel_rfl)
noncomputable def e94 : Nat × Sum × Fun := (94, s94, F94)
noncomputable def T66 : List (Nat × Sum × Fun) := e94 :: T65
theorem A66 : AllOk Tryz.prog (tabF T66) (gl m) (tabS T66) := AllOk.cons (s := e94.2.1) c94 call94 (fun S h => by cases h) A65
/-! (*seepage/core.work).works -/
def s55 : Sum := { args := [(.ptr ckl0), (.val true [(.int .u8), .bool])], tup := false, res := [(false, [.bool])], pre := true }
def S55 : Smry := (.mk [(.call 59 [(.v 0), (.v 1), (.v 2), (.v 3), (.v 4), (.v 5), (.v 6), (.v 7), (.v 8), (.v 9), (.v 10), (.v 11), (.v 12), (.v 13), (.v 14), (.v 15), (.v 16)] [(.v 0), (.v 1), (.v 2), (.v 3), (.v 4), (.v 5), (.v 6), (.v 7), (.v 8), (.v 9), (.v 10), (.v 11), (.v 12), (.v 13)] 18 18 15 16), (.ob [] (.v 15)), (.db 31 (.cm .neq (.v 34) (.c 1))), (.db 32 (.and (.v 16) (.v 31))), (.di 36 (.ar .sub .i64 (.v 18) (.c 1))), (.di 37 (.ite (.v 32) (.v 36) (.v 18))), (.db 33 (.cm .lss (.v 27) (.v 37))), (.call 94 [(.v 19), (.v 20), (.v 21), (.v 22), (.v 23), (.v 24), (.v 25), (.v 26), (.v 27), (.v 28), (.v 29), (.v 30), (.v 31), (.v 32), (.v 33), (.v 34), (.v 35), (.v 17)] [(.v 17), (.v 18), (.v 19), (.v 20), (.v 21), (.v 22), (.v 23), (.v 24), (.v 25), (.v 26), (.v 27), (.v 28), (.v 29), (.v 30), (.v 14)] 38 17 34 14), (.db 48 (.cm .lss (.v 27) (.v 18))), (.db 49 (.cm .eql (.v 34) (.c 1))), (.db 50 (.and (.v 16) (.v 49))), (.db 51 (.cm .eql (.v 27) (.v 18))), (.db 52 (.and (.v 50) (.v 51))), (.db 53 (.and (.v 52) (.v 24))), (.db 54 (.ite (.v 48) (.v 48) (.v 53))), (.di 55 (.ar .add .u16 (.v 28) (.c 256))), (.di 56 (.ite (.v 24) (.v 55) (.v 28))), (.db 55 (.or (.v 33) (.v 54))), (.di 57 (.ite (.v 33) (.v 38) (.v 19))), (.db 56 (.ite (.v 33) (.v 34) (.v 17))), (.di 58 (.ite (.v 33) (.v 39) (.v 20))), (.db 57 (.ite (.v 33) (.v 35) (.v 18))), (.di 59 (.ite (.v 33) (.v 40) (.v 21))), (.db 58 (.ite (.v 33) (.v 36) (.v 19))), (.di 60 (.ite (.v 33) (.v 41) (.v 22))), (.db 59 (.ite (.v 33) (.v 37) (.v 20))), (.di 61 (.ite (.v 33) (.v 42) (.v 23))), (.di 62 (.ite (.v 33) (.v 43) (.v 24))), (.di 63 (.ite (.v 33) (.v 44) (.v 25))), (.db 60 (.ite (.v 33) (.v 38) (.v 21))), (.di 64 (.ite (.v 33) (.v 45) (.v 26))), (.di 65 (.ite (.v 33) (.v 46) (.v 27))), (.di 66 (.ite (.v 33) (.v 47) (.v 56))), (.db 61 (.ite (.v 33) (.v 39) (.v 22))), (.di 67 (.ite (.v 33) (.v 48) (.v 29))), (.db 62 (.ite (.v 33) (.v 40) (.v 23))), (.db 63 (.ite (.v 33) (.v 41) (.v 24))), (.di 68 (.ite (.v 33) (.v 49) (.v 30))), (.db 64 (.ite (.v 33) (.v 42) (.v 25))), (.db 65 (.ite (.v 33) (.v 43) (.v 26))), (.di 69 (.ite (.v 33) (.v 50) (.v 31))), (.db 66 (.ite (.v 33) (.v 44) (.v 27))), (.db 67 (.ite (.v 33) (.v 45) (.v 28))), (.di 70 (.ite (.v 33) (.v 51) (.v 32))), (.di 71 (.ite (.v 33) (.v 52) (.v 33))), (.di 72 (.ite (.v 33) (.v 53) (.v 34))), (.di 73 (.ite (.v 33) (.v 54) (.v 35))), (.db 68 (.ite (.v 33) (.v 46) (.v 29))), (.db 69 (.ite (.v 33) (.v 47) (.v 30))), (.db 70 (.cm .eql (.v 34) (.c 1))), (.call 51 [(.v 19), (.v 20), (.v 21), (.v 22), (.v 23), (.v 24), (.v 25), (.v 26), (.v 27), (.v 28), (.v 29), (.v 30), (.v 31), (.v 32), (.v 33), (.v 34), (.v 35), (.v 17)] [(.v 17), (.v 18), (.v 19), (.v 20), (.v 21), (.v 22), (.v 23), (.v 24), (.v 25), (.v 26), (.v 27), (.v 28), (.v 29), (.v 30), (.v 14)] 74 17 71 15), (.ob [((.v 33), false), ((.v 54), false), ((.v 70), true)] (.v 71)), (.db 86 (.cm .eql (.v 34) (.c 2))), (.db 87 (.cm .eql (.v 32) (.c 190536410541747572716161940294993060653600960856017324112419134017052639766042789901501552906650088255196995594321035314226829309603383083008))), (.di 91 (.ar .and .u8 (.v 19) (.v 20))), (.db 88 (.not (.v 17))), (.db 89 (.not (.v 18))), (.db 90 (.not (.v 18))), (.db 91 (.not (.v 17))), (.db 92 (.ite (.v 91) (.v 18) (.v 17))), (.db 93 (.not (.v 17))), (.db 94 (.not (.v 18))), (.db 95 (.and (.v 93) (.v 94))), (.db 96 (.ite (.v 95) (.c false) (.c true))), (.di 92 (.ite (.v 87) (.v 91) (.v 22))), (.db 97 (.ite (.v 87) (.v 96) (.v 20))), (.db 98 (.or (.v 70) (.v 86))), (.di 93 (.ite (.v 70) (.v 74) (.v 19))), (.db 99 (.ite (.v 70) (.v 72) (.v 17))), (.di 94 (.ite (.v 70) (.v 75) (.v 20))), (.db 100 (.ite (.v 70) (.v 73) (.v 18))), (.di 95 (.ite (.v 70) (.v 76) (.v 21))), (.db 101 (.ite (.v 70) (.v 74) (.v 19))), (.di 96 (.ite (.v 70) (.v 77) (.v 92))), (.db 102 (.ite (.v 70) (.v 75) (.v 97))), (.di 97 (.ite (.v 70) (.v 78) (.v 23))), (.di 98 (.ite (.v 70) (.v 79) (.v 24))), (.di 99 (.ite (.v 70) (.v 80) (.v 25))), (.db 103 (.ite (.v 70) (.v 76) (.v 21))), (.di 100 (.ite (.v 70) (.v 81) (.v 26))), (.di 101 (.ite (.v 70) (.v 82) (.v 27))), (.di 102 (.ite (.v 70) (.v 83) (.v 28))), (.db 104 (.ite (.v 70) (.v 77) (.v 22))), (.di 103 (.ite (.v 70) (.v 84) (.v 29))), (.db 105 (.ite (.v 70) (.v 78) (.v 23))), (.db 106 (.ite (.v 70) (.v 79) (.v 24))), (.di 104 (.ite (.v 70) (.v 85) (.v 30))), (.db 107 (.ite (.v 70) (.v 80) (.v 25))), (.db 108 (.ite (.v 70) (.v 81) (.v 26))), (.di 105 (.ite (.v 70) (.v 86) (.v 31))), (.db 109 (.ite (.v 70) (.v 82) (.v 27))), (.db 110 (.ite (.v 70) (.v 83) (.v 28))), (.di 106 (.ite (.v 70) (.v 87) (.v 32))), (.di 107 (.ite (.v 70) (.v 88) (.v 33))), (.di 108 (.ite (.v 70) (.v 89) (.v 34))), (.di 109 (.ite (.v 70) (.v 90) (.v 35))), (.db 111 (.ite (.v 70) (.v 84) (.v 29))), (.db 112 (.ite (.v 70) (.v 85) (.v 30))), (.di 110 (.ar .sub .i64 (.v 27) (.v 18))), (.db 113 (.cm .eql (.v 110) (.c 0))), (.db 114 (.cm .eql (.v 110) (.c 2))), (.call 50 [(.v 19), (.v 20), (.v 21), (.v 22), (.v 23), (.v 24), (.v 25), (.v 26), (.v 27), (.v 28), (.v 29), (.v 30), (.v 31), (.v 32), (.v 33), (.v 34), (.v 35), (.v 29)] [(.v 17), (.v 18), (.v 19), (.v 20), (.v 21), (.v 22), (.v 23), (.v 24), (.v 25), (.v 26), (.v 27), (.v 28), (.v 29), (.v 30), (.v 23)] 111 18 115 16), (.ob [((.v 33), false), ((.v 54), false), ((.v 70), false), ((.v 86), false), ((.v 113), false), ((.v 114), true)] (.v 115)), (.db 131 (.not (.v 114))), (.db 132 (.or (.v 113) (.v 131))), (.di 129 (.ite (.v 113) (.v 17) (.v 29))), (.db 133 (.ite (.v 113) (.v 14) (.v 23))), (.db 134 (.ite (.v 132) (.c false) (.c true))), (.di 130 (.ite (.v 132) (.v 19) (.v 112))), (.db 135 (.ite (.v 132) (.v 17) (.v 117))), (.di 131 (.ite (.v 132) (.v 20) (.v 113))), (.db 136 (.ite (.v 132) (.v 18) (.v 118))), (.di 132 (.ite (.v 132) (.v 21) (.v 114))), (.db 137 (.ite (.v 132) (.v 19) (.v 119))), (.di 133 (.ite (.v 132) (.v 22) (.v 115))), (.db 138 (.ite (.v 132) (.v 20) (.v 120))), (.di 134 (.ite (.v 132) (.v 23) (.v 116))), (.di 135 (.ite (.v 132) (.v 24) (.v 117))), (.di 136 (.ite (.v 132) (.v 25) (.v 118))), (.db 139 (.ite (.v 132) (.v 21) (.v 121))), (.di 137 (.ite (.v 132) (.v 26) (.v 119))), (.di 138 (.ite (.v 132) (.v 27) (.v 120))), (.di 139 (.ite (.v 132) (.v 28) (.v 121))), (.db 140 (.ite (.v 132) (.v 22) (.v 122))), (.di 140 (.ite (.v 132) (.v 129) (.v 122))), (.db 141 (.ite (.v 132) (.v 133) (.v 123))), (.db 142 (.ite (.v 132) (.v 24) (.v 124))), (.di 141 (.ite (.v 132) (.v 30) (.v 123))), (.db 143 (.ite (.v 132) (.v 25) (.v 125))), (.db 144 (.ite (.v 132) (.v 26) (.v 126))), (.di 142 (.ite (.v 132) (.v 31) (.v 124))), (.db 145 (.ite (.v 132) (.v 27) (.v 127))), (.db 146 (.ite (.v 132) (.v 28) (.v 128))), (.di 143 (.ite (.v 132) (.v 32) (.v 125))), (.di 144 (.ite (.v 132) (.v 33) (.v 126))), (.di 145 (.ite (.v 132) (.v 34) (.v 127))), (.di 146 (.ite (.v 132) (.v 35) (.v 128))), (.db 147 (.ite (.v 132) (.v 29) (.v 129))), (.db 148 (.ite (.v 132) (.v 30) (.v 130))), (.db 149 (.not (.v 70))), (.db 150 (.not (.v 86))), (.db 151 (.and (.v 149) (.v 150))), (.db 152 (.ite (.v 151) (.v 134) (.c true))), (.di 147 (.ite (.v 151) (.v 130) (.v 93))), (.db 153 (.ite (.v 151) (.v 135) (.v 99))), (.di 148 (.ite (.v 151) (.v 131) (.v 94))), (.db 154 (.ite (.v 151) (.v 136) (.v 100))), (.di 149 (.ite (.v 151) (.v 132) (.v 95))), (.db 155 (.ite (.v 151) (.v 137) (.v 101))), (.di 150 (.ite (.v 151) (.v 133) (.v 96))), (.db 156 (.ite (.v 151) (.v 138) (.v 102))), (.di 151 (.ite (.v 151) (.v 134) (.v 97))), (.di 152 (.ite (.v 151) (.v 135) (.v 98))), (.di 153 (.ite (.v 151) (.v 136) (.v 99))), (.db 157 (.ite (.v 151) (.v 139) (.v 103))), (.di 154 (.ite (.v 151) (.v 137) (.v 100))), (.di 155 (.ite (.v 151) (.v 138) (.v 101))), (.di 156 (.ite (.v 151) (.v 139) (.v 102))), (.db 158 (.ite (.v 151) (.v 140) (.v 104))), (.di 157 (.ite (.v 151) (.v 140) (.v 103))), (.db 159 (.ite (.v 151) (.v 141) (.v 105))), (.db 160 (.ite (.v 151) (.v 142) (.v 106))), (.di 158 (.ite (.v 151) (.v 141) (.v 104))), (.db 161 (.ite (.v 151) (.v 143) (.v 107))), (.db 162 (.ite (.v 151) (.v 144) (.v 108))), (.di 159 (.ite (.v 151) (.v 142) (.v 105))), (.db 163 (.ite (.v 151) (.v 145) (.v 109))), (.db 164 (.ite (.v 151) (.v 146) (.v 110))), (.di 160 (.ite (.v 151) (.v 143) (.v 106))), (.di 161 (.ite (.v 151) (.v 144) (.v 107))), (.di 162 (.ite (.v 151) (.v 145) (.v 108))), (.di 163 (.ite (.v 151) (.v 146) (.v 109))), (.db 165 (.ite (.v 151) (.v 147) (.v 111))), (.db 166 (.ite (.v 151) (.v 148) (.v 112))), (.db 167 (.not (.v 33))), (.db 168 (.not (.v 54))), (.db 169 (.and (.v 167) (.v 168))), (.db 170 (.and (.v 169) (.v 152))), (.di 164 (.ite (.v 169) (.v 147) (.v 57))), (.db 171 (.ite (.v 169) (.v 153) (.v 56))), (.di 165 (.ite (.v 169) (.v 148) (.v 58))), (.db 172 (.ite (.v 169) (.v 154) (.v 57))), (.di 166 (.ite (.v 169) (.v 149) (.v 59))), (.db 173 (.ite (.v 169) (.v 155) (.v 58))), (.di 167 (.ite (.v 169) (.v 150) (.v 60))), (.db 174 (.ite (.v 169) (.v 156) (.v 59))), (.di 168 (.ite (.v 169) (.v 151) (.v 61))), (.di 169 (.ite (.v 169) (.v 152) (.v 62))), (.di 170 (.ite (.v 169) (.v 153) (.v 63))), (.db 175 (.ite (.v 169) (.v 157) (.v 60))), (.di 171 (.ite (.v 169) (.v 154) (.v 64))), (.di 172 (.ite (.v 169) (.v 155) (.v 65))), (.di 173 (.ite (.v 169) (.v 156) (.v 66))), (.db 176 (.ite (.v 169) (.v 158) (.v 61))), (.di 174 (.ite (.v 169) (.v 157) (.v 67))), (.db 177 (.ite (.v 169) (.v 159) (.v 62))), (.db 178 (.ite (.v 169) (.v 160) (.v 63))), (.di 175 (.ite (.v 169) (.v 158) (.v 68))), (.db 179 (.ite (.v 169) (.v 161) (.v 64))), (.db 180 (.ite (.v 169) (.v 162) (.v 65))), (.di 176 (.ite (.v 169) (.v 159) (.v 69))), (.db 181 (.ite (.v 169) (.v 163) (.v 66))), (.db 182 (.ite (.v 169) (.v 164) (.v 67))), (.di 177 (.ite (.v 169) (.v 160) (.v 70))), (.di 178 (.ite (.v 169) (.v 161) (.v 71))), (.di 179 (.ite (.v 169) (.v 162) (.v 72))), (.di 180 (.ite (.v 169) (.v 163) (.v 73))), (.db 183 (.ite (.v 169) (.v 165) (.v 68))), (.db 184 (.ite (.v 169) (.v 166) (.v 69)))] [(.v 164), (.v 165), (.v 166), (.v 167), (.v 168), (.v 169), (.v 170), (.v 171), (.v 172), (.v 173), (.v 174), (.v 175), (.v 176), (.v 177), (.v 178), (.v 179), (.v 180)] [(.v 170), (.v 171), (.v 172), (.v 173), (.v 174), (.v 175), (.v 176), (.v 177), (.v 178), (.v 179), (.v 180), (.v 181), (.v 182), (.v 183), (.v 184)])
theorem k55 : fnX Tryz.prog (hnd Tryz.prog (gl m) inl (tabS T66)) (gl m) (ctlOf Tryz.f55 (gl m) s55) Tryz.f55 s55 = some S55 := by kernel_rfl
noncomputable def F55 : Fun := S55.run (tabF T66) true
theorem x55 : AllOk Tryz.prog (tabF T66) (gl m) (tabS T66) := A66
theorem y55 : LoopsOk (tabF T66) (ctlOf Tryz.f55 (gl m) s55) := (LoopsOk.nil rfl)
theorem z55 : (wsEm S55.em (argI s55.args) (argB s55.args) && shOk s55 && s55.pre) = true := by kernel_rfl
theorem d55 : Contract Tryz.prog (gl m) 55 s55 (S55.run (tabF T66) s55.pre) := contract_pre (hnd_ok x55 inl_ok) Tryz.func55 y55 k55 z55
theorem c55 : Contract Tryz.prog (gl m) 55 s55 F55 := d55
theorem call55 : ∀ args w, (callFunc 55 args).run Tryz.prog w = .ok (.enter 55 args) w := callable_of Tryz.func55 (by kernel_rfl) (by kernel_rfl)
noncomputable def e55 : Nat × Sum × Fun := (55, s55, F55)
noncomputable def T67 : List (Nat × Sum × Fun) := e55 :: T66
theorem A67 : AllOk Tryz.prog (tabF T67) (gl m) (tabS T67) := AllOk.cons (s := e55.2.1) c55 call55 (fun S h => by cases h) A66
/-! (*seepage/core.work).far -/
def s96 : Sum := { args := [(.ptr ckl0), (.val true [(.int .u8), .bool]), (.val true [(.int .u8), .bool])], tup := true, res := [], pre := false }
def S96 : Smry := (.mk [(.di 19 (.cv .u16 (.v 17))), (.di 20 (.cv .u16 (.v 18))), (.di 21 (.ar .shl .u16 (.v 20) (.c 8))), (.di 22 (.ar .or .u16 (.v 19) (.v 21))), (.db 16 (.not (.v 14))), (.db 17 (.not (.v 15))), (.db 18 (.not (.v 15))), (.db 19 (.not (.v 14))), (.db 20 (.ite (.v 19) (.v 15) (.v 14))), (.db 21 (.not (.v 14))), (.db 22 (.not (.v 15))), (.db 23 (.and (.v 21) (.v 22))), (.db 24 (.ite (.v 23) (.c false) (.c true)))] [(.v 0), (.v 1), (.v 2), (.v 3), (.v 4), (.v 5), (.v 22), (.v 7), (.v 8), (.v 9), (.v 10), (.v 11), (.v 12), (.v 13), (.v 14), (.v 15), (.v 16)] [(.v 0), (.v 1), (.v 2), (.v 3), (.v 24), (.v 5), (.v 6), (.v 7), (.v 8), (.v 9), (.v 10), (.v 11), (.v 12), (.v 13)])
theorem k96 : fnX Tryz.prog (hnd Tryz.prog (gl m) inl (tabS T67)) (gl m) (ctlOf Tryz.f96 (gl m) s96) Tryz.f96 s96 = some S96 := by kernel_rfl
noncomputable def F96 : Fun := S96.run (tabF T67) false
theorem x96 : AllOk Tryz.prog (tabF T67) (gl m) (tabS T67) := A67
theorem y96 : LoopsOk (tabF T67) (ctlOf Tryz.f96 (gl m) s96) := (LoopsOk.nil rfl)
theorem z96 : (wsEm S96.em (argI s96.args) (argB s96.args) && shOk s96 && noOb S96.em) = true := by kernel_rfl
theorem d96 : Contract Tryz.prog (gl m) 96 s96 (S96.run (tabF T67) s96.pre) := contract_of (hnd_ok x96 inl_ok) Tryz.func96 y96 k96 z96
theorem c96 : Contract Tryz.prog (gl m) 96 s96 F96 := d96
theorem call96 : ∀ args w, (callFunc 96 args).run Tryz.prog w = .ok (.enter 96 args) w := callable_of Tryz.func96 (by kernel_rfl) (by kernel_rfl)
noncomputable def e96 : Nat × Sum × Fun := (96, withInl s96 S96, F96)
noncomputable def T68 : List (Nat × Sum × Fun) := e96 :: T67
theorem A68 : AllOk Tryz.prog (tabF T68) (gl m) (tabS T68) := AllOk.cons (s := e96.2.1) c96 call96 (fun S h => by cases h; exact ⟨rfl, fun _ _ => rfl⟩) A67
/-! (*seepage/core.work).jump -/
def s97 : Sum := { args := [(.ptr ckl0), (.val true [(.int .u8), .bool])], tup := false, res := [(false, [.bool])], pre := false }
def S97 : Smry := (.mk [(.db 15 (.cm .eql (.v 8) (.c 1))), (.di 18 (.ar .add .u16 (.v 6) (.c 1))), (.db 16 (.cm .eql (.v 8) (.c 2))), (.di 19 (.ar .add .u16 (.v 6) (.c 1))), (.call 117 [(.v 0), (.v 1), (.v 2), (.v 3), (.v 4), (.v 5), (.v 19), (.v 7), (.v 8), (.v 9), (.v 10), (.v 11), (.v 12), (.v 13), (.v 14), (.v 15), (.v 16), (.v 10), (.v 17)] [(.v 0), (.v 1), (.v 2), (.v 3), (.v 4), (.c false), (.v 6), (.v 7), (.v 8), (.v 9), (.v 10), (.v 11), (.v 12), (.v 13), (.v 6), (.v 14)] 20 17 17 14), (.db 31 (.cm .eql (.v 8) (.c 3))), (.di 37 (.ar .and .u16 (.v 9) (.c 65280))), (.di 38 (.ar .add .u16 (.v 9) (.c 1))), (.di 39 (.ar .and .u16 (.v 38) (.c 255))), (.di 40 (.ar .or .u16 (.v 37) (.v 39))), (.di 41 (.cv .u16 (.v 10))), (.di 42 (.cv .u16 (.v 17))), (.di 43 (.ar .shl .u16 (.v 42) (.c 8))), (.di 44 (.ar .or .u16 (.v 41) (.v 43))), (.db 32 (.not (.v 6))), (.db 33 (.not (.v 14))), (.db 34 (.not (.v 14))), (.db 35 (.not (.v 6))), (.db 36 (.ite (.v 35) (.v 14) (.v 6))), (.db 37 (.not (.v 6))), (.db 38 (.not (.v 14))), (.db 39 (.and (.v 37) (.v 38))), (.db 40 (.ite (.v 39) (.c false) (.c true))), (.db 41 (.or (.v 16) (.v 31))), (.di 45 (.ite (.v 16) (.v 20) (.v 0))), (.db 42 (.ite (.v 16) (.v 17) (.v 0))), (.di 46 (.ite (.v 16) (.v 21) (.v 1))), (.db 43 (.ite (.v 16) (.v 18) (.v 1))), (.di 47 (.ite (.v 16) (.v 22) (.v 2))), (.db 44 (.ite (.v 16) (.v 19) (.v 2))), (.di 48 (.ite (.v 16) (.v 23) (.v 3))), (.db 45 (.ite (.v 16) (.v 20) (.v 3))), (.di 49 (.ite (.v 16) (.v 24) (.v 4))), (.di 50 (.ite (.v 16) (.v 25) (.v 5))), (.di 51 (.ite (.v 16) (.v 26) (.v 6))), (.db 46 (.ite (.v 16) (.v 21) (.v 4))), (.di 52 (.ite (.v 16) (.v 27) (.v 7))), (.di 53 (.ite (.v 16) (.v 28) (.v 8))), (.di 54 (.ite (.v 16) (.v 29) (.v 40))), (.db 47 (.ite (.v 16) (.v 22) (.v 5))), (.di 55 (.ite (.v 16) (.v 30) (.v 17))), (.db 48 (.ite (.v 16) (.v 23) (.v 14))), (.db 49 (.ite (.v 16) (.v 24) (.v 7))), (.di 56 (.ite (.v 16) (.v 31) (.v 11))), (.db 50 (.ite (.v 16) (.v 25) (.v 8))), (.db 51 (.ite (.v 16) (.v 26) (.v 9))), (.di 57 (.ite (.v 16) (.v 32) (.v 12))), (.db 52 (.ite (.v 16) (.v 27) (.v 10))), (.db 53 (.ite (.v 16) (.v 28) (.v 11))), (.di 58 (.ite (.v 16) (.v 33) (.v 13))), (.di 59 (.ite (.v 16) (.v 34) (.v 14))), (.di 60 (.ite (.v 16) (.v 35) (.v 15))), (.di 61 (.ite (.v 16) (.v 36) (.v 16))), (.db 54 (.ite (.v 16) (.v 29) (.v 12))), (.db 55 (.ite (.v 16) (.v 30) (.v 13))), (.db 56 (.or (.v 15) (.v 41))), (.di 62 (.ite (.v 15) (.v 0) (.v 45))), (.db 57 (.ite (.v 15) (.v 0) (.v 42))), (.di 63 (.ite (.v 15) (.v 1) (.v 46))), (.db 58 (.ite (.v 15) (.v 1) (.v 43))), (.di 64 (.ite (.v 15) (.v 2) (.v 47))), (.db 59 (.ite (.v 15) (.v 2) (.v 44))), (.di 65 (.ite (.v 15) (.v 3) (.v 48))), (.db 60 (.ite (.v 15) (.v 3) (.v 45))), (.di 66 (.ite (.v 15) (.v 4) (.v 49))), (.di 67 (.ite (.v 15) (.v 5) (.v 50))), (.di 68 (.ite (.v 15) (.v 18) (.v 51))), (.db 61 (.ite (.v 15) (.v 4) (.v 46))), (.di 69 (.ite (.v 15) (.v 7) (.v 52))), (.di 70 (.ite (.v 15) (.v 8) (.v 53))), (.di 71 (.ite (.v 15) (.v 9) (.v 54))), (.db 62 (.ite (.v 15) (.v 5) (.v 47))), (.di 72 (.ite (.v 15) (.v 17) (.v 55))), (.db 63 (.ite (.v 15) (.v 14) (.v 48))), (.db 64 (.ite (.v 15) (.v 7) (.v 49))), (.di 73 (.ite (.v 15) (.v 11) (.v 56))), (.db 65 (.ite (.v 15) (.v 8) (.v 50))), (.db 66 (.ite (.v 15) (.v 9) (.v 51))), (.di 74 (.ite (.v 15) (.v 12) (.v 57))), (.db 67 (.ite (.v 15) (.v 10) (.v 52))), (.db 68 (.ite (.v 15) (.v 11) (.v 53))), (.di 75 (.ite (.v 15) (.v 13) (.v 58))), (.di 76 (.ite (.v 15) (.v 14) (.v 59))), (.di 77 (.ite (.v 15) (.v 15) (.v 60))), (.di 78 (.ite (.v 15) (.v 16) (.v 61))), (.db 69 (.ite (.v 15) (.v 12) (.v 54))), (.db 70 (.ite (.v 15) (.v 13) (.v 55))), (.db 71 (.ite (.v 56) (.c false) (.c true))), (.di 79 (.ite (.v 56) (.v 62) (.v 0))), (.db 72 (.ite (.v 56) (.v 57) (.v 0))), (.di 80 (.ite (.v 56) (.v 63) (.v 1))), (.db 73 (.ite (.v 56) (.v 58) (.v 1))), (.di 81 (.ite (.v 56) (.v 64) (.v 2))), (.db 74 (.ite (.v 56) (.v 59) (.v 2))), (.di 82 (.ite (.v 56) (.v 65) (.v 3))), (.db 75 (.ite (.v 56) (.v 60) (.v 3))), (.di 83 (.ite (.v 56) (.v 66) (.v 4))), (.di 84 (.ite (.v 56) (.v 67) (.v 5))), (.di 85 (.ite (.v 56) (.v 68) (.v 44))), (.db 76 (.ite (.v 56) (.v 61) (.v 40))), (.di 86 (.ite (.v 56) (.v 69) (.v 7))), (.di 87 (.ite (.v 56) (.v 70) (.v 8))), (.di 88 (.ite (.v 56) (.v 71) (.v 9))), (.db 77 (.ite (.v 56) (.v 62) (.v 5))), (.di 89 (.ite (.v 56) (.v 72) (.v 10))), (.db 78 (.ite (.v 56) (.v 63) (.v 6))), (.db 79 (.ite (.v 56) (.v 64) (.v 7))), (.di 90 (.ite (.v 56) (.v 73) (.v 11))), (.db 80 (.ite (.v 56) (.v 65) (.v 8))), (.db 81 (.ite (.v 56) (.v 66) (.v 9))), (.di 91 (.ite (.v 56) (.v 74) (.v 12))), (.db 82 (.ite (.v 56) (.v 67) (.v 10))), (.db 83 (.ite (.v 56) (.v 68) (.v 11))), (.di 92 (.ite (.v 56) (.v 75) (.v 13))), (.di 93 (.ite (.v 56) (.v 76) (.v 14))), (.di 94 (.ite (.v 56) (.v 77) (.v 15))), (.di 95 (.ite (.v 56) (.v 78) (.v 16))), (.db 84 (.ite (.v 56) (.v 69) (.v 12))), (.db 85 (.ite (.v 56) (.v 70) (.v 13)))] [(.v 79), (.v 80), (.v 81), (.v 82), (.v 83), (.v 84), (.v 85), (.v 86), (.v 87), (.v 88), (.v 89), (.v 90), (.v 91), (.v 92), (.v 93), (.v 94), (.v 95)] [(.v 71), (.v 72), (.v 73), (.v 74), (.v 75), (.v 76), (.v 77), (.v 78), (.v 79), (.v 80), (.v 81), (.v 82), (.v 83), (.v 84), (.v 85)])
theorem k97 : fnX Tryz.prog (hnd Tryz.prog (gl m) inl (tabS T68)) (gl m) (ctlOf Tryz.f97 (gl m) s97) Tryz.f97 s97 = some S97 := by kernel_rfl
noncomputable def F97 : Fun := S97.run (tabF T68) false
theorem x97 : AllOk Tryz.prog (tabF T68) (gl m) (tabS T68) := A68
theorem y97 : LoopsOk (tabF T68) (ctlOf Tryz.f97 (gl m) s97) := (LoopsOk.nil rfl)
theorem z97 : (wsEm S97.em (argI s97.args) (argB s97.args) && shOk s97 && noOb S97.em) = true := by kernel_rfl
theorem d97 : Contract Tryz.prog (gl m) 97 s97 (S97.run (tabF T68) s97.pre) := contract_of (hnd_ok x97 inl_ok) Tryz.func97 y97 k97 z97
theorem c97 : Contract Tryz.prog (gl m) 97 s97 F97 := d97
theorem call97 : ∀ args w, (callFunc 97 args).run Tryz.prog w = .ok (.enter 97 args) w := callable_of Tryz.func97 (by kernel_rfl) (by kernel_rfl)
noncomputable def e97 : Nat × Sum × Fun := (97, s97, F97)
noncomputable def T69 : List (Nat × Sum × Fun) := e97 :: T68
theorem A69 : AllOk Tryz.prog (tabF T69) (gl m) (tabS T69) := AllOk.cons (s := e97.2.1) c97 call97 (fun S h => by cases h) A68
/-! (*seepage/core.work).call -/
def s98 : Sum := { args := [(.ptr ckl0), (.val true [(.int .u8), .bool])], tup := false, res := [(false, [.bool])], pre := false }
def S98 : Smry := (.mk [(.db 15 (.cm .eql (.v 8) (.c 1))), (.di 18 (.ar .add .u16 (.v 6) (.c 1))), (.db 16 (.cm .eql (.v 8) (.c 3))), (.db 17 (.cm .eql (.v 8) (.c 4))), (.db 18 (.ite (.v 16) (.v 16) (.v 17))), (.di 19 (.ar .add .u8 (.v 3) (.c 255))), (.db 19 (.cm .eql (.v 8) (.c 5))), (.di 20 (.cv .u16 (.v 10))), (.di 21 (.cv .u16 (.v 17))), (.di 22 (.ar .shl .u16 (.v 21) (.c 8))), (.di 23 (.ar .or .u16 (.v 20) (.v 22))), (.db 20 (.not (.v 6))), (.db 21 (.not (.v 14))), (.db 22 (.not (.v 14))), (.db 23 (.not (.v 6))), (.db 24 (.ite (.v 23) (.v 14) (.v 6))), (.db 25 (.not (.v 6))), (.db 26 (.not (.v 14))), (.db 27 (.and (.v 25) (.v 26))), (.db 28 (.ite (.v 27) (.c false) (.c true))), (.db 29 (.not (.v 19))), (.db 30 (.or (.v 18) (.v 29))), (.di 24 (.ite (.v 18) (.v 19) (.v 3))), (.db 31 (.or (.v 15) (.v 30))), (.di 25 (.ite (.v 15) (.v 3) (.v 24))), (.di 26 (.ite (.v 15) (.v 18) (.v 6))), (.di 27 (.ite (.v 15) (.v 17) (.v 10))), (.db 32 (.ite (.v 15) (.v 14) (.v 6))), (.db 33 (.ite (.v 31) (.c false) (.c true))), (.di 28 (.ite (.v 31) (.v 25) (.v 3))), (.di 29 (.ite (.v 31) (.v 26) (.v 23))), (.db 34 (.ite (.v 31) (.v 4) (.v 28))), (.di 30 (.ite (.v 31) (.v 27) (.v 10))), (.db 35 (.ite (.v 31) (.v 32) (.v 6)))] [(.v 0), (.v 1), (.v 2), (.v 28), (.v 4), (.v 5), (.v 29), (.v 7), (.v 8), (.v 9), (.v 30), (.v 11), (.v 12), (.v 13), (.v 14), (.v 15), (.v 16)] [(.v 33), (.v 0), (.v 1), (.v 2), (.v 3), (.v 34), (.v 5), (.v 35), (.v 7), (.v 8), (.v 9), (.v 10), (.v 11), (.v 12), (.v 13)])
theorem k98 : fnX Tryz.prog (hnd Tryz.prog (gl m) inl (tabS T69)) (gl m) (ctlOf Tryz.f98 (gl m) s98) Tryz.f98 s98 = some S98 := by kernel_rfl
noncomputable def F98 : Fun := S98.run (tabF T69) false
theorem x98 : AllOk Tryz.prog (tabF T69) (gl m) (tabS T69) := A69
theorem y98 : LoopsOk (tabF T69) (ctlOf Tryz.f98 (gl m) s98) := (LoopsOk.nil rfl)
theorem z98 : (wsEm S98.em (argI s98.args) (argB s98.args) && shOk s98 && noOb S98.em) = true := by kernel_rfl
theorem d98 : Contract Tryz.prog (gl m) 98 s98 (S98.run (tabF T69) s98.pre) := contract_of (hnd_ok x98 inl_ok) Tryz.func98 y98 k98 z98
theorem c98 : Contract Tryz.prog (gl m) 98 s98 F98 := d98
theorem call98 : ∀ args w, (callFunc 98 args).run Tryz.prog w = .ok (.enter 98 args) w := callable_of Tryz.func98 (by kernel_rfl) (by kernel_rfl)
noncomputable def e98 : Nat × Sum × Fun := (98, s98, F98)
noncomputable def T70 : List (Nat × Sum × Fun) := e98 :: T69
theorem A70 : AllOk Tryz.prog (tabF T70) (gl m) (tabS T70) := AllOk.cons (s := e98.2.1) c98 call98 (fun S h => by cases h) A69
/-! (*seepage/core.work).back -/
def s99 : Sum := { args := [(.ptr ckl0), (.val true [(.int .u8), .bool])], tup := false, res := [(false, [.bool])], pre := false }
def S99 : Smry := (.mk [(.db 15 (.cm .eql (.v 8) (.c 2))), (.di 18 (.ar .add .u8 (.v 3) (.c 1))), (.db 16 (.cm .eql (.v 8) (.c 3))), (.di 19 (.ar .add .u8 (.v 3) (.c 1))), (.db 17 (.cm .eql (.v 8) (.c 4))), (.di 20 (.cv .u16 (.v 10))), (.di 21 (.cv .u16 (.v 17))), (.di 22 (.ar .shl .u16 (.v 21) (.c 8))), (.di 23 (.ar .or .u16 (.v 20) (.v 22))), (.db 18 (.not (.v 6))), (.db 19 (.not (.v 14))), (.db 20 (.not (.v 14))), (.db 21 (.not (.v 6))), (.db 22 (.ite (.v 21) (.v 14) (.v 6))), (.db 23 (.not (.v 6))), (.db 24 (.not (.v 14))), (.db 25 (.and (.v 23) (.v 24))), (.db 26 (.ite (.v 25) (.c false) (.c true))), (.db 27 (.cm .eql (.v 8) (.c 5))), (.di 24 (.ar .add .u16 (.v 6) (.c 1))), (.db 28 (.not (.v 27))), (.db 29 (.or (.v 17) (.v 28))), (.di 25 (.ite (.v 17) (.v 23) (.v 6))), (.db 30 (.ite (.v 17) (.v 26) (.v 4))), (.db 31 (.or (.v 16) (.v 29))), (.di 26 (.ite (.v 16) (.v 19) (.v 3))), (.di 27 (.ite (.v 16) (.v 6) (.v 25))), (.db 32 (.ite (.v 16) (.v 4) (.v 30))), (.di 28 (.ite (.v 16) (.v 17) (.v 10))), (.db 33 (.ite (.v 16) (.v 14) (.v 6))), (.db 34 (.or (.v 15) (.v 31))), (.di 29 (.ite (.v 15) (.v 18) (.v 26))), (.di 30 (.ite (.v 15) (.v 6) (.v 27))), (.db 35 (.ite (.v 15) (.v 4) (.v 32))), (.di 31 (.ite (.v 15) (.v 10) (.v 28))), (.db 36 (.ite (.v 15) (.v 6) (.v 33))), (.db 37 (.ite (.v 34) (.c false) (.c true))), (.di 32 (.ite (.v 34) (.v 29) (.v 3))), (.di 33 (.ite (.v 34) (.v 30) (.v 24))), (.db 38 (.ite (.v 34) (.v 35) (.v 4))), (.di 34 (.ite (.v 34) (.v 31) (.v 10))), (.db 39 (.ite (.v 34) (.v 36) (.v 6)))] [(.v 0), (.v 1), (.v 2), (.v 32), (.v 4), (.v 5), (.v 33), (.v 7), (.v 8), (.v 9), (.v 34), (.v 11), (.v 12), (.v 13), (.v 14), (.v 15), (.v 16)] [(.v 37), (.v 0), (.v 1), (.v 2), (.v 3), (.v 38), (.v 5), (.v 39), (.v 7), (.v 8), (.v 9), (.v 10), (.v 11), (.v 12), (.v 13)])
theorem k99 : fnX Tryz.prog (hnd Tryz.prog (gl m) inl (tabS T70)) (gl m) (ctlOf Tryz.f99 (gl m) s99) Tryz.f99 s99 = some S99 := by kernel_rfl
noncomputable def F99 : Fun := S99.run (tabF T70) false
theorem x99 : AllOk Tryz.prog (tabF T70) (gl m) (tabS T70) := A70
theorem y99 : LoopsOk (tabF T70) (ctlOf Tryz.f99 (gl m) s99) := (LoopsOk.nil rfl)
theorem z99 : (wsEm S99.em (argI s99.args) (argB s99.args) && shOk s99 && noOb S99.em) = true := by kernel_rfl
theorem d99 : Contract Tryz.prog (gl m) 99 s99 (S99.run (tabF T70) s99.pre) := contract_of (hnd_ok x99 inl_ok) Tryz.func99 y99 k99 z99
theorem c99 : Contract Tryz.prog (gl m) 99 s99 F99 := d99
theorem call99 : ∀ args w, (callFunc 99 args).run Tryz.prog w = .ok (.enter 99 args) w := callable_of Tryz.func99 (by kernel_rfl) (by kernel_rfl)
noncomputable def e99 : Nat × Sum × Fun := (99, s99, F99)
noncomputable def T71 : List (Nat × Sum × Fun) := e99 :: T70
theorem A71 : AllOk Tryz.prog (tabF T71) (gl m) (tabS T71) := AllOk.cons (s := e99.2.1) c99 call99 (fun S h => by cases h) A70
/-! (*seepage/core.work).interrupt -/
def s100 : Sum := { args := [(.ptr ckl0), (.val true [(.int .u8), .bool])], tup := false, res := [(false, [.bool])], pre := false }
def S100 : Smry := (.mk [(.db 15 (.cm .eql (.v 14) (.c 16))), (.db 16 (.cm .eql (.v 8) (.c 2))), (.db 17 (.and (.v 15) (.v 16))), (.di 18 (.ar .add .u8 (.v 3) (.c 1))), (.db 18 (.cm .eql (.v 8) (.c 3))), (.db 19 (.and (.v 15) (.v 18))), (.di 19 (.ar .and .u8 (.v 17) (.c 207))), (.di 20 (.ite (.v 14) (.c 207) (.c 0))), (.di 21 (.ar .add .u8 (.v 3) (.c 1))), (.db 20 (.cm .eql (.v 8) (.c 4))), (.db 21 (.and (.v 15) (.v 20))), (.di 22 (.ar .add .u8 (.v 3) (.c 1))), (.db 22 (.cm .eql (.v 8) (.c 5))), (.db 23 (.and (.v 15) (.v 22))), (.di 23 (.cv .u16 (.v 10))), (.di 24 (.cv .u16 (.v 17))), (.di 25 (.ar .shl .u16 (.v 24) (.c 8))), (.di 26 (.ar .or .u16 (.v 23) (.v 25))), (.db 24 (.not (.v 6))), (.db 25 (.not (.v 14))), (.db 26 (.not (.v 14))), (.db 27 (.not (.v 6))), (.db 28 (.ite (.v 27) (.v 14) (.v 6))), (.db 29 (.not (.v 6))), (.db 30 (.not (.v 14))), (.db 31 (.and (.v 29) (.v 30))), (.db 32 (.ite (.v 31) (.c false) (.c true))), (.db 33 (.cm .eql (.v 8) (.c 1))), (.db 34 (.cm .eql (.v 11) (.c 0))), (.db 35 (.and (.v 33) (.v 34))), (.di 27 (.ar .add .u16 (.v 6) (.c 1))), (.db 36 (.cm .geq (.v 8) (.c 2))), (.db 37 (.cm .leq (.v 8) (.c 4))), (.db 38 (.and (.v 36) (.v 37))), (.di 28 (.ar .add .u8 (.v 3) (.c 255))), (.db 39 (.cm .eql (.v 8) (.c 5))), (.db 40 (.cm .eql (.v 8) (.c 6))), (.di 29 (.cv .u16 (.v 10))), (.di 30 (.cv .u16 (.v 17))), (.di 31 (.ar .shl .u16 (.v 30) (.c 8))), (.di 32 (.ar .or .u16 (.v 29) (.v 31))), (.db 41 (.not (.v 6))), (.db 42 (.not (.v 14))), (.db 43 (.not (.v 14))), (.db 44 (.not (.v 6))), (.db 45 (.ite (.v 44) (.v 14) (.v 6))), (.db 46 (.not (.v 6))), (.db 47 (.not (.v 14))), (.db 48 (.and (.v 46) (.v 47))), (.db 49 (.ite (.v 48) (.c false) (.c true))), (.call 66 [(.v 0), (.v 1), (.v 2), (.v 3), (.v 4), (.v 5), (.v 32), (.v 7), (.v 8), (.v 9), (.v 10), (.v 11), (.v 12), (.v 13), (.v 14), (.v 15), (.v 16), (.c 4), (.c 1)] [(.v 0), (.v 1), (.v 2), (.v 3), (.v 49), (.v 5), (.v 6), (.v 7), (.v 8), (.v 9), (.v 10), (.v 11), (.v 12), (.v 13)] 33 17 50 14), (.db 64 (.not (.v 40))), (.db 65 (.or (.v 39) (.v 64))), (.di 50 (.ite (.v 39) (.v 17) (.v 10))), (.db 66 (.ite (.v 39) (.v 14) (.v 6))), (.db 67 (.or (.v 38) (.v 65))), (.di 51 (.ite (.v 38) (.v 28) (.v 3))), (.di 52 (.ite (.v 38) (.v 10) (.v 50))), (.db 68 (.ite (.v 38) (.v 6) (.v 66))), (.db 69 (.or (.v 35) (.v 67))), (.di 53 (.ite (.v 35) (.v 3) (.v 51))), (.di 54 (.ite (.v 35) (.v 27) (.v 6))), (.di 55 (.ite (.v 35) (.v 10) (.v 52))), (.db 70 (.ite (.v 35) (.v 6) (.v 68))), (.db 71 (.or (.v 15) (.v 69))), (.di 56 (.ite (.v 15) (.v 3) (.v 53))), (.di 57 (.ite (.v 15) (.v 6) (.v 54))), (.di 58 (.ite (.v 15) (.v 10) (.v 55))), (.db 72 (.ite (.v 15) (.v 6) (.v 70))), (.db 73 (.not (.v 15))), (.db 74 (.not (.v 35))), (.db 75 (.not (.v 38))), (.db 76 (.not (.v 39))), (.db 77 (.and (.v 76) (.v 40))), (.db 78 (.and (.v 75) (.v 77))), (.db 79 (.and (.v 74) (.v 78))), (.db 80 (.and (.v 73) (.v 79))), (.db 81 (.or (.v 23) (.v 80))), (.di 59 (.ite (.v 23) (.v 0) (.v 33))), (.db 82 (.ite (.v 23) (.v 0) (.v 50))), (.di 60 (.ite (.v 23) (.v 1) (.v 34))), (.db 83 (.ite (.v 23) (.v 1) (.v 51))), (.di 61 (.ite (.v 23) (.v 2) (.v 35))), (.db 84 (.ite (.v 23) (.v 2) (.v 52))), (.di 62 (.ite (.v 23) (.v 3) (.v 36))), (.db 85 (.ite (.v 23) (.v 3) (.v 53))), (.di 63 (.ite (.v 23) (.v 4) (.v 37))), (.di 64 (.ite (.v 23) (.v 5) (.v 38))), (.di 65 (.ite (.v 23) (.v 26) (.v 39))), (.db 86 (.ite (.v 23) (.v 32) (.v 54))), (.di 66 (.ite (.v 23) (.v 7) (.v 40))), (.di 67 (.ite (.v 23) (.v 8) (.v 41))), (.di 68 (.ite (.v 23) (.v 9) (.v 42))), (.db 87 (.ite (.v 23) (.v 5) (.v 55))), (.di 69 (.ite (.v 23) (.v 10) (.v 43))), (.db 88 (.ite (.v 23) (.v 6) (.v 56))), (.db 89 (.ite (.v 23) (.v 7) (.v 57))), (.di 70 (.ite (.v 23) (.v 11) (.v 44))), (.db 90 (.ite (.v 23) (.v 8) (.v 58))), (.db 91 (.ite (.v 23) (.v 9) (.v 59))), (.di 71 (.ite (.v 23) (.v 12) (.v 45))), (.db 92 (.ite (.v 23) (.v 10) (.v 60))), (.db 93 (.ite (.v 23) (.v 11) (.v 61))), (.di 72 (.ite (.v 23) (.v 13) (.v 46))), (.di 73 (.ite (.v 23) (.v 14) (.v 47))), (.di 74 (.ite (.v 23) (.v 15) (.v 48))), (.di 75 (.ite (.v 23) (.v 16) (.v 49))), (.db 94 (.ite (.v 23) (.v 12) (.v 62))), (.db 95 (.ite (.v 23) (.v 13) (.v 63))), (.db 96 (.not (.v 23))), (.db 97 (.and (.v 96) (.v 71))), (.db 98 (.or (.v 21) (.v 97))), (.di 76 (.ite (.v 21) (.v 22) (.v 56))), (.di 77 (.ite (.v 21) (.v 6) (.v 57))), (.di 78 (.ite (.v 21) (.v 17) (.v 58))), (.db 99 (.ite (.v 21) (.v 14) (.v 72))), (.db 100 (.or (.v 19) (.v 98))), (.di 79 (.ite (.v 19) (.v 21) (.v 76))), (.di 80 (.ite (.v 19) (.v 19) (.v 4))), (.di 81 (.ite (.v 19) (.v 20) (.v 5))), (.di 82 (.ite (.v 19) (.v 6) (.v 77))), (.di 83 (.ite (.v 19) (.v 10) (.v 78))), (.db 101 (.ite (.v 19) (.v 6) (.v 99))), (.db 102 (.or (.v 17) (.v 100))), (.di 84 (.ite (.v 17) (.v 18) (.v 79))), (.di 85 (.ite (.v 17) (.v 4) (.v 80))), (.di 86 (.ite (.v 17) (.v 5) (.v 81))), (.di 87 (.ite (.v 17) (.v 6) (.v 82))), (.di 88 (.ite (.v 17) (.v 10) (.v 83))), (.db 103 (.ite (.v 17) (.v 6) (.v 101))), (.db 104 (.ite (.v 102) (.c false) (.c true))), (.di 89 (.ite (.v 102) (.v 0) (.v 59))), (.db 105 (.ite (.v 102) (.v 0) (.v 82))), (.di 90 (.ite (.v 102) (.v 1) (.v 60))), (.db 106 (.ite (.v 102) (.v 1) (.v 83))), (.di 91 (.ite (.v 102) (.v 2) (.v 61))), (.db 107 (.ite (.v 102) (.v 2) (.v 84))), (.di 92 (.ite (.v 102) (.v 84) (.v 62))), (.db 108 (.ite (.v 102) (.v 3) (.v 85))), (.di 93 (.ite (.v 102) (.v 85) (.v 63))), (.di 94 (.ite (.v 102) (.v 86) (.v 64))), (.di 95 (.ite (.v 102) (.v 87) (.v 65))), (.db 109 (.ite (.v 102) (.v 4) (.v 86))), (.di 96 (.ite (.v 102) (.v 7) (.v 66))), (.di 97 (.ite (.v 102) (.v 8) (.v 67))), (.di 98 (.ite (.v 102) (.v 9) (.v 68))), (.db 110 (.ite (.v 102) (.v 5) (.v 87))), (.di 99 (.ite (.v 102) (.v 88) (.v 69))), (.db 111 (.ite (.v 102) (.v 103) (.v 88))), (.db 112 (.ite (.v 102) (.v 7) (.v 89))), (.di 100 (.ite (.v 102) (.v 11) (.v 70))), (.db 113 (.ite (.v 102) (.v 8) (.v 90))), (.db 114 (.ite (.v 102) (.v 9) (.v 91))), (.di 101 (.ite (.v 102) (.v 12) (.v 71))), (.db 115 (.ite (.v 102) (.v 10) (.v 92))), (.db 116 (.ite (.v 102) (.v 11) (.v 93))), (.di 102 (.ite (.v 102) (.v 13) (.v 72))), (.di 103 (.ite (.v 102) (.v 14) (.v 73))), (.di 104 (.ite (.v 102) (.v 15) (.v 74))), (.di 105 (.ite (.v 102) (.v 16) (.v 75))), (.db 117 (.ite (.v 102) (.v 12) (.v 94))), (.db 118 (.ite (.v 102) (.v 13) (.v 95)))] [(.v 89), (.v 90), (.v 91), (.v 92), (.v 93), (.v 94), (.v 95), (.v 96), (.v 97), (.v 98), (.v 99), (.v 100), (.v 101), (.v 102), (.v 103), (.v 104), (.v 105)] [(.v 104), (.v 105), (.v 106), (.v 107), (.v 108), (.v 109), (.v 110), (.v 111), (.v 112), (.v 113), (.v 114), (.v 115), (.v 116), (.v 117), (.v 118)])
theorem k100 : fnX Tryz.prog (hnd Tryz.prog (gl m) inl (tabS T71)) (gl m) (ctlOf Tryz.f100 (gl m) s100) Tryz.f100 s100 = some S100 := by kernel_rfl
noncomputable def F100 : Fun := S100.run (tabF T71) false
theorem x100 : AllOk Tryz.prog (tabF T71) (gl m) (tabS T71) := A71
theorem y100 : LoopsOk (tabF T71) (ctlOf Tryz.f100 (gl m) s100) := (LoopsOk.nil rfl)
theorem z100 : (wsEm S100.em (argI s100.args) (argB s100.args) && shOk s100 && noOb S100.em) = true := by kernel_rfl
theorem d100 : Contract Tryz.prog (gl m) 100 s100 (S100.run (tabF T71) s100.pre) := contract_of (hnd_ok x100 inl_ok) Tryz.func100 y100 k100 z100
theorem c100 : Contract Tryz.prog (gl m) 100 s100 F100 := d100
theorem call100 : ∀ args w, (callFunc 100 args).run Tryz.prog w = .ok (.enter 100 args) w := callable_of Tryz.func100 (by kernel_rfl) (by kernel_rfl)
noncomputable def e100 : Nat × Sum × Fun := (100, s100, F100)
noncomputable def T72 : List (Nat × Sum × Fun) := e100 :: T71
theorem A72 : AllOk Tryz.prog (tabF T72) (gl m) (tabS T72) := AllOk.cons (s := e100.2.1) c100 call100 (fun S h => by cases h) A71
end Go.Proofs.YtalnndmnnffnmaaGreat.Cr
/-! ## CrS5 -/
set_option linter.unusedVariables false
set_option linter.unusedSimpArgs false
namespace Go.Proofs.YtalnndmnnffnmaaGreat.Cr
open Go Go.Proofs Go.Proofs.YtalnndmnnffnmaaGreat.Sx
variable {m : Int}

/-! (*seepage/core.work).control -/
def s56 : Sum := { args := [(.ptr ckl0), (.val true [(.int .u8), .bool])], tup := false, res := [(false, [.bool])], pre := false }
def S56 : Smry := (.mk [(.db 15 (.cm .eql (.v 14) (.c 13))), (.db 16 (.cm .eql (.v 8) (.c 1))), (.di 18 (.ar .add .u16 (.v 6) (.c 1))), (.di 19 (.cv .u16 (.v 10))), (.di 20 (.cv .u16 (.v 17))), (.di 21 (.ar .shl .u16 (.v 20) (.c 8))), (.di 22 (.ar .or .u16 (.v 19) (.v 21))), (.db 17 (.not (.v 6))), (.db 18 (.not (.v 14))), (.db 19 (.not (.v 14))), (.db 20 (.not (.v 6))), (.db 21 (.ite (.v 20) (.v 14) (.v 6))), (.db 22 (.not (.v 6))), (.db 23 (.not (.v 14))), (.db 24 (.and (.v 22) (.v 23))), (.db 25 (.ite (.v 24) (.c false) (.c true))), (.db 26 (.not (.v 16))), (.di 23 (.ite (.v 26) (.v 22) (.v 18))), (.db 27 (.ite (.v 26) (.v 25) (.v 4))), (.di 24 (.ite (.v 26) (.v 10) (.v 17))), (.db 28 (.ite (.v 26) (.v 6) (.v 14))), (.db 29 (.cm .eql (.v 14) (.c 12))), (.call 97 [(.v 0), (.v 1), (.v 2), (.v 3), (.v 4), (.v 5), (.v 6), (.v 7), (.v 8), (.v 9), (.v 10), (.v 11), (.v 12), (.v 13), (.v 14), (.v 15), (.v 16), (.v 17)] [(.v 0), (.v 1), (.v 2), (.v 3), (.v 4), (.v 5), (.v 6), (.v 7), (.v 8), (.v 9), (.v 10), (.v 11), (.v 12), (.v 13), (.v 14)] 25 17 30 15), (.db 45 (.cm .eql (.v 14) (.c 14))), (.call 98 [(.v 0), (.v 1), (.v 2), (.v 3), (.v 4), (.v 5), (.v 6), (.v 7), (.v 8), (.v 9), (.v 10), (.v 11), (.v 12), (.v 13), (.v 14), (.v 15), (.v 16), (.v 17)] [(.v 0), (.v 1), (.v 2), (.v 3), (.v 4), (.v 5), (.v 6), (.v 7), (.v 8), (.v 9), (.v 10), (.v 11), (.v 12), (.v 13), (.v 14)] 42 17 46 15), (.db 61 (.cm .eql (.v 14) (.c 15))), (.call 99 [(.v 0), (.v 1), (.v 2), (.v 3), (.v 4), (.v 5), (.v 6), (.v 7), (.v 8), (.v 9), (.v 10), (.v 11), (.v 12), (.v 13), (.v 14), (.v 15), (.v 16), (.v 17)] [(.v 0), (.v 1), (.v 2), (.v 3), (.v 4), (.v 5), (.v 6), (.v 7), (.v 8), (.v 9), (.v 10), (.v 11), (.v 12), (.v 13), (.v 14)] 59 17 62 15), (.db 77 (.or (.v 45) (.v 61))), (.db 78 (.ite (.v 45) (.v 46) (.v 62))), (.di 76 (.ite (.v 45) (.v 42) (.v 59))), (.db 79 (.ite (.v 45) (.v 47) (.v 63))), (.di 77 (.ite (.v 45) (.v 43) (.v 60))), (.db 80 (.ite (.v 45) (.v 48) (.v 64))), (.di 78 (.ite (.v 45) (.v 44) (.v 61))), (.db 81 (.ite (.v 45) (.v 49) (.v 65))), (.di 79 (.ite (.v 45) (.v 45) (.v 62))), (.db 82 (.ite (.v 45) (.v 50) (.v 66))), (.di 80 (.ite (.v 45) (.v 46) (.v 63))), (.di 81 (.ite (.v 45) (.v 47) (.v 64))), (.di 82 (.ite (.v 45) (.v 48) (.v 65))), (.db 83 (.ite (.v 45) (.v 51) (.v 67))), (.di 83 (.ite (.v 45) (.v 49) (.v 66))), (.di 84 (.ite (.v 45) (.v 50) (.v 67))), (.di 85 (.ite (.v 45) (.v 51) (.v 68))), (.db 84 (.ite (.v 45) (.v 52) (.v 68))), (.di 86 (.ite (.v 45) (.v 52) (.v 69))), (.db 85 (.ite (.v 45) (.v 53) (.v 69))), (.db 86 (.ite (.v 45) (.v 54) (.v 70))), (.di 87 (.ite (.v 45) (.v 53) (.v 70))), (.db 87 (.ite (.v 45) (.v 55) (.v 71))), (.db 88 (.ite (.v 45) (.v 56) (.v 72))), (.di 88 (.ite (.v 45) (.v 54) (.v 71))), (.db 89 (.ite (.v 45) (.v 57) (.v 73))), (.db 90 (.ite (.v 45) (.v 58) (.v 74))), (.di 89 (.ite (.v 45) (.v 55) (.v 72))), (.di 90 (.ite (.v 45) (.v 56) (.v 73))), (.di 91 (.ite (.v 45) (.v 57) (.v 74))), (.di 92 (.ite (.v 45) (.v 58) (.v 75))), (.db 91 (.ite (.v 45) (.v 59) (.v 75))), (.db 92 (.ite (.v 45) (.v 60) (.v 76))), (.db 93 (.or (.v 29) (.v 77))), (.db 94 (.ite (.v 29) (.v 30) (.v 78))), (.di 93 (.ite (.v 29) (.v 25) (.v 76))), (.db 95 (.ite (.v 29) (.v 31) (.v 79))), (.di 94 (.ite (.v 29) (.v 26) (.v 77))), (.db 96 (.ite (.v 29) (.v 32) (.v 80))), (.di 95 (.ite (.v 29) (.v 27) (.v 78))), (.db 97 (.ite (.v 29) (.v 33) (.v 81))), (.di 96 (.ite (.v 29) (.v 28) (.v 79))), (.db 98 (.ite (.v 29) (.v 34) (.v 82))), (.di 97 (.ite (.v 29) (.v 29) (.v 80))), (.di 98 (.ite (.v 29) (.v 30) (.v 81))), (.di 99 (.ite (.v 29) (.v 31) (.v 82))), (.db 99 (.ite (.v 29) (.v 35) (.v 83))), (.di 100 (.ite (.v 29) (.v 32) (.v 83))), (.di 101 (.ite (.v 29) (.v 33) (.v 84))), (.di 102 (.ite (.v 29) (.v 34) (.v 85))), (.db 100 (.ite (.v 29) (.v 36) (.v 84))), (.di 103 (.ite (.v 29) (.v 35) (.v 86))), (.db 101 (.ite (.v 29) (.v 37) (.v 85))), (.db 102 (.ite (.v 29) (.v 38) (.v 86))), (.di 104 (.ite (.v 29) (.v 36) (.v 87))), (.db 103 (.ite (.v 29) (.v 39) (.v 87))), (.db 104 (.ite (.v 29) (.v 40) (.v 88))), (.di 105 (.ite (.v 29) (.v 37) (.v 88))), (.db 105 (.ite (.v 29) (.v 41) (.v 89))), (.db 106 (.ite (.v 29) (.v 42) (.v 90))), (.di 106 (.ite (.v 29) (.v 38) (.v 89))), (.di 107 (.ite (.v 29) (.v 39) (.v 90))), (.di 108 (.ite (.v 29) (.v 40) (.v 91))), (.di 109 (.ite (.v 29) (.v 41) (.v 92))), (.db 107 (.ite (.v 29) (.v 43) (.v 91))), (.db 108 (.ite (.v 29) (.v 44) (.v 92))), (.db 109 (.or (.v 15) (.v 93))), (.db 110 (.ite (.v 15) (.v 26) (.v 94))), (.di 110 (.ite (.v 15) (.v 0) (.v 93))), (.db 111 (.ite (.v 15) (.v 0) (.v 95))), (.di 111 (.ite (.v 15) (.v 1) (.v 94))), (.db 112 (.ite (.v 15) (.v 1) (.v 96))), (.di 112 (.ite (.v 15) (.v 2) (.v 95))), (.db 113 (.ite (.v 15) (.v 2) (.v 97))), (.di 113 (.ite (.v 15) (.v 3) (.v 96))), (.db 114 (.ite (.v 15) (.v 3) (.v 98))), (.di 114 (.ite (.v 15) (.v 4) (.v 97))), (.di 115 (.ite (.v 15) (.v 5) (.v 98))), (.di 116 (.ite (.v 15) (.v 23) (.v 99))), (.db 115 (.ite (.v 15) (.v 27) (.v 99))), (.di 117 (.ite (.v 15) (.v 7) (.v 100))), (.di 118 (.ite (.v 15) (.v 8) (.v 101))), (.di 119 (.ite (.v 15) (.v 9) (.v 102))), (.db 116 (.ite (.v 15) (.v 5) (.v 100))), (.di 120 (.ite (.v 15) (.v 24) (.v 103))), (.db 117 (.ite (.v 15) (.v 28) (.v 101))), (.db 118 (.ite (.v 15) (.v 7) (.v 102))), (.di 121 (.ite (.v 15) (.v 11) (.v 104))), (.db 119 (.ite (.v 15) (.v 8) (.v 103))), (.db 120 (.ite (.v 15) (.v 9) (.v 104))), (.di 122 (.ite (.v 15) (.v 12) (.v 105))), (.db 121 (.ite (.v 15) (.v 10) (.v 105))), (.db 122 (.ite (.v 15) (.v 11) (.v 106))), (.di 123 (.ite (.v 15) (.v 13) (.v 106))), (.di 124 (.ite (.v 15) (.v 14) (.v 107))), (.di 125 (.ite (.v 15) (.v 15) (.v 108))), (.di 126 (.ite (.v 15) (.v 16) (.v 109))), (.db 123 (.ite (.v 15) (.v 12) (.v 107))), (.db 124 (.ite (.v 15) (.v 13) (.v 108))), (.call 100 [(.v 0), (.v 1), (.v 2), (.v 3), (.v 4), (.v 5), (.v 6), (.v 7), (.v 8), (.v 9), (.v 10), (.v 11), (.v 12), (.v 13), (.v 14), (.v 15), (.v 16), (.v 17)] [(.v 0), (.v 1), (.v 2), (.v 3), (.v 4), (.v 5), (.v 6), (.v 7), (.v 8), (.v 9), (.v 10), (.v 11), (.v 12), (.v 13), (.v 14)] 127 17 125 15), (.db 140 (.not (.v 15))), (.db 141 (.not (.v 29))), (.db 142 (.not (.v 45))), (.db 143 (.not (.v 61))), (.db 144 (.and (.v 142) (.v 143))), (.db 145 (.and (.v 141) (.v 144))), (.db 146 (.and (.v 140) (.v 145))), (.db 147 (.ite (.v 146) (.v 125) (.v 110))), (.di 144 (.ite (.v 146) (.v 127) (.v 110))), (.db 148 (.ite (.v 146) (.v 126) (.v 111))), (.di 145 (.ite (.v 146) (.v 128) (.v 111))), (.db 149 (.ite (.v 146) (.v 127) (.v 112))), (.di 146 (.ite (.v 146) (.v 129) (.v 112))), (.db 150 (.ite (.v 146) (.v 128) (.v 113))), (.di 147 (.ite (.v 146) (.v 130) (.v 113))), (.db 151 (.ite (.v 146) (.v 129) (.v 114))), (.di 148 (.ite (.v 146) (.v 131) (.v 114))), (.di 149 (.ite (.v 146) (.v 132) (.v 115))), (.di 150 (.ite (.v 146) (.v 133) (.v 116))), (.db 152 (.ite (.v 146) (.v 130) (.v 115))), (.di 151 (.ite (.v 146) (.v 134) (.v 117))), (.di 152 (.ite (.v 146) (.v 135) (.v 118))), (.di 153 (.ite (.v 146) (.v 136) (.v 119))), (.db 153 (.ite (.v 146) (.v 131) (.v 116))), (.di 154 (.ite (.v 146) (.v 137) (.v 120))), (.db 154 (.ite (.v 146) (.v 132) (.v 117))), (.db 155 (.ite (.v 146) (.v 133) (.v 118))), (.di 155 (.ite (.v 146) (.v 138) (.v 121))), (.db 156 (.ite (.v 146) (.v 134) (.v 119))), (.db 157 (.ite (.v 146) (.v 135) (.v 120))), (.di 156 (.ite (.v 146) (.v 139) (.v 122))), (.db 158 (.ite (.v 146) (.v 136) (.v 121))), (.db 159 (.ite (.v 146) (.v 137) (.v 122))), (.di 157 (.ite (.v 146) (.v 140) (.v 123))), (.di 158 (.ite (.v 146) (.v 141) (.v 124))), (.di 159 (.ite (.v 146) (.v 142) (.v 125))), (.di 160 (.ite (.v 146) (.v 143) (.v 126))), (.db 160 (.ite (.v 146) (.v 138) (.v 123))), (.db 161 (.ite (.v 146) (.v 139) (.v 124)))] [(.v 144), (.v 145), (.v 146), (.v 147), (.v 148), (.v 149), (.v 150), (.v 151), (.v 152), (.v 153), (.v 154), (.v 155), (.v 156), (.v 157), (.v 158), (.v 159), (.v 160)] [(.v 147), (.v 148), (.v 149), (.v 150), (.v 151), (.v 152), (.v 153), (.v 154), (.v 155), (.v 156), (.v 157), (.v 158), (.v 159), (.v 160), (.v 161)])
theorem k56 : fnX Tryz.prog (hnd Tryz.prog (gl m) inl (tabS T72)) (gl m) (ctlOf Tryz.f56 (gl m) s56) Tryz.f56 s56 = some S56 := by kernel_rfl
noncomputable def F56 : Fun := S56.run (tabF T72) false
theorem x56 : AllOk Tryz.prog (tabF T72) (gl m) (tabS T72) := A72
theorem y56 : LoopsOk (tabF T72) (ctlOf Tryz.f56 (gl m) s56) := (LoopsOk.nil rfl)
theorem z56 : (wsEm S56.em (argI s56.args) (argB s56.args) && shOk s56 && noOb S56.em) = true := by kernel_rfl
theorem d56 : Contract Tryz.prog (gl m) 56 s56 (S56.run (tabF T72) s56.pre) := contract_of (hnd_ok x56 inl_ok) Tryz.func56 y56 k56 z56
theorem c56 : Contract Tryz.prog (gl m) 56 s56 F56 := d56
theorem call56 : ∀ args w, (callFunc 56 args).run Tryz.prog w = .ok (.enter 56 args) w := callable_of Tryz.func56 (by kernel_rfl) (by kernel_rfl)
noncomputable def e56 : Nat × Sum × Fun := (56, s56, F56)
noncomputable def T73 : List (Nat × Sum × Fun) := e56 :: T72
theorem A73 : AllOk Tryz.prog (tabF T73) (gl m) (tabS T73) := AllOk.cons (s := e56.2.1) c56 call56 (fun S h => by cases h) A72
/-! (*seepage/core.work).goes -/
def s27 : Sum := { args := [(.ptr ckl0), (.val true [(.int .u8), .bool])], tup := false, res := [(false, [.bool])], pre := true }
def S27 : Smry := (.mk [(.db 15 (.cm .eql (.v 14) (.c 0))), (.call 49 [(.v 0), (.v 1), (.v 2), (.v 3), (.v 4), (.v 5), (.v 6), (.v 7), (.v 8), (.v 9), (.v 10), (.v 11), (.v 12), (.v 13), (.v 14), (.v 15), (.v 16)] [(.v 0), (.v 1), (.v 2), (.v 3), (.v 4), (.v 5), (.v 6), (.v 7), (.v 8), (.v 9), (.v 10), (.v 11), (.v 12), (.v 13)] 18 17 16 14), (.db 30 (.cm .eql (.v 14) (.c 1))), (.call 50 [(.v 0), (.v 1), (.v 2), (.v 3), (.v 4), (.v 5), (.v 6), (.v 7), (.v 8), (.v 9), (.v 10), (.v 11), (.v 12), (.v 13), (.v 14), (.v 15), (.v 16), (.v 0)] [(.v 0), (.v 1), (.v 2), (.v 3), (.v 4), (.v 5), (.v 6), (.v 7), (.v 8), (.v 9), (.v 10), (.v 11), (.v 12), (.v 13), (.v 0)] 35 18 31 16), (.ob [((.v 15), false), ((.v 30), true)] (.v 31)), (.db 47 (.cm .eql (.v 14) (.c 2))), (.di 53 (.ar .add .u16 (.v 6) (.c 1))), (.call 51 [(.v 0), (.v 1), (.v 2), (.v 3), (.v 4), (.v 5), (.v 53), (.v 7), (.v 8), (.v 9), (.v 10), (.v 11), (.v 12), (.v 13), (.v 14), (.v 15), (.v 16), (.v 17)] [(.v 0), (.v 1), (.v 2), (.v 3), (.v 4), (.v 5), (.v 6), (.v 7), (.v 8), (.v 9), (.v 10), (.v 11), (.v 12), (.v 13), (.v 14)] 54 17 48 15), (.ob [((.v 15), false), ((.v 30), false), ((.v 47), true)] (.v 48)), (.db 63 (.cm .eql (.v 14) (.c 11))), (.call 52 [(.v 0), (.v 1), (.v 2), (.v 3), (.v 4), (.v 5), (.v 6), (.v 7), (.v 8), (.v 9), (.v 10), (.v 11), (.v 12), (.v 13), (.v 14), (.v 15), (.v 16), (.v 17)] [(.v 0), (.v 1), (.v 2), (.v 3), (.v 4), (.v 5), (.v 6), (.v 7), (.v 8), (.v 9), (.v 10), (.v 11), (.v 12), (.v 13), (.v 14)] 71 17 64 16), (.ob [((.v 15), false), ((.v 30), false), ((.v 47), false), ((.v 63), true)] (.v 64)), (.db 80 (.cm .eql (.v 14) (.c 18))), (.db 81 (.cm .eql (.v 14) (.c 19))), (.db 82 (.ite (.v 80) (.v 80) (.v 81))), (.call 53 [(.v 0), (.v 1), (.v 2), (.v 3), (.v 4), (.v 5), (.v 6), (.v 7), (.v 8), (.v 9), (.v 10), (.v 11), (.v 12), (.v 13), (.v 14), (.v 15), (.v 16), (.v 17)] [(.v 0), (.v 1), (.v 2), (.v 3), (.v 4), (.v 5), (.v 6), (.v 7), (.v 8), (.v 9), (.v 10), (.v 11), (.v 12), (.v 13), (.v 14)] 88 17 83 15), (.db 98 (.cm .eql (.v 14) (.c 20))), (.db 99 (.or (.v 82) (.v 98))), (.db 100 (.and (.v 82) (.v 83))), (.di 105 (.ite (.v 82) (.v 88) (.v 0))), (.db 101 (.ite (.v 82) (.v 84) (.v 0))), (.di 106 (.ite (.v 82) (.v 89) (.v 1))), (.db 102 (.ite (.v 82) (.v 85) (.v 1))), (.di 107 (.ite (.v 82) (.v 90) (.v 2))), (.db 103 (.ite (.v 82) (.v 86) (.v 2))), (.di 108 (.ite (.v 82) (.v 91) (.v 3))), (.db 104 (.ite (.v 82) (.v 87) (.v 3))), (.di 109 (.ite (.v 82) (.v 92) (.v 4))), (.di 110 (.ite (.v 82) (.v 93) (.v 5))), (.di 111 (.ite (.v 82) (.v 94) (.v 6))), (.db 105 (.ite (.v 82) (.v 88) (.v 4))), (.di 112 (.ite (.v 82) (.v 95) (.v 7))), (.di 113 (.ite (.v 82) (.v 96) (.c 0))), (.di 114 (.ite (.v 82) (.v 97) (.v 9))), (.db 106 (.ite (.v 82) (.v 89) (.v 5))), (.di 115 (.ite (.v 82) (.v 98) (.v 10))), (.db 107 (.ite (.v 82) (.v 90) (.v 6))), (.db 108 (.ite (.v 82) (.v 91) (.v 7))), (.di 116 (.ite (.v 82) (.v 99) (.v 11))), (.db 109 (.ite (.v 82) (.v 92) (.v 8))), (.db 110 (.ite (.v 82) (.v 93) (.v 9))), (.di 117 (.ite (.v 82) (.v 100) (.v 12))), (.db 111 (.ite (.v 82) (.v 94) (.v 10))), (.db 112 (.ite (.v 82) (.v 95) (.c true))), (.di 118 (.ite (.v 82) (.v 101) (.v 13))), (.di 119 (.ite (.v 82) (.v 102) (.v 14))), (.di 120 (.ite (.v 82) (.v 103) (.v 15))), (.di 121 (.ite (.v 82) (.v 104) (.v 16))), (.db 113 (.ite (.v 82) (.v 96) (.v 12))), (.db 114 (.ite (.v 82) (.v 97) (.v 13))), (.db 115 (.or (.v 63) (.v 99))), (.db 116 (.ite (.v 63) (.v 65) (.v 100))), (.di 122 (.ite (.v 63) (.v 71) (.v 105))), (.db 117 (.ite (.v 63) (.v 66) (.v 101))), (.di 123 (.ite (.v 63) (.v 72) (.v 106))), (.db 118 (.ite (.v 63) (.v 67) (.v 102))), (.di 124 (.ite (.v 63) (.v 73) (.v 107))), (.db 119 (.ite (.v 63) (.v 68) (.v 103))), (.di 125 (.ite (.v 63) (.v 74) (.v 108))), (.db 120 (.ite (.v 63) (.v 69) (.v 104))), (.di 126 (.ite (.v 63) (.v 75) (.v 109))), (.di 127 (.ite (.v 63) (.v 76) (.v 110))), (.di 128 (.ite (.v 63) (.v 77) (.v 111))), (.db 121 (.ite (.v 63) (.v 70) (.v 105))), (.di 129 (.ite (.v 63) (.v 78) (.v 112))), (.di 130 (.ite (.v 63) (.v 79) (.v 113))), (.di 131 (.ite (.v 63) (.v 80) (.v 114))), (.db 122 (.ite (.v 63) (.v 71) (.v 106))), (.di 132 (.ite (.v 63) (.v 81) (.v 115))), (.db 123 (.ite (.v 63) (.v 72) (.v 107))), (.db 124 (.ite (.v 63) (.v 73) (.v 108))), (.di 133 (.ite (.v 63) (.v 82) (.v 116))), (.db 125 (.ite (.v 63) (.v 74) (.v 109))), (.db 126 (.ite (.v 63) (.v 75) (.v 110))), (.di 134 (.ite (.v 63) (.v 83) (.v 117))), (.db 127 (.ite (.v 63) (.v 76) (.v 111))), (.db 128 (.ite (.v 63) (.v 77) (.v 112))), (.di 135 (.ite (.v 63) (.v 84) (.v 118))), (.di 136 (.ite (.v 63) (.v 85) (.v 119))), (.di 137 (.ite (.v 63) (.v 86) (.v 120))), (.di 138 (.ite (.v 63) (.v 87) (.v 121))), (.db 129 (.ite (.v 63) (.v 78) (.v 113))), (.db 130 (.ite (.v 63) (.v 79) (.v 114))), (.db 131 (.or (.v 47) (.v 115))), (.db 132 (.or (.v 47) (.v 116))), (.di 139 (.ite (.v 47) (.v 54) (.v 122))), (.db 133 (.ite (.v 47) (.v 49) (.v 117))), (.di 140 (.ite (.v 47) (.v 55) (.v 123))), (.db 134 (.ite (.v 47) (.v 50) (.v 118))), (.di 141 (.ite (.v 47) (.v 56) (.v 124))), (.db 135 (.ite (.v 47) (.v 51) (.v 119))), (.di 142 (.ite (.v 47) (.v 57) (.v 125))), (.db 136 (.ite (.v 47) (.v 52) (.v 120))), (.di 143 (.ite (.v 47) (.v 58) (.v 126))), (.di 144 (.ite (.v 47) (.v 59) (.v 127))), (.di 145 (.ite (.v 47) (.v 60) (.v 128))), (.db 137 (.ite (.v 47) (.v 53) (.v 121))), (.di 146 (.ite (.v 47) (.v 61) (.v 129))), (.di 147 (.ite (.v 47) (.v 62) (.v 130))), (.di 148 (.ite (.v 47) (.v 63) (.v 131))), (.db 138 (.ite (.v 47) (.v 54) (.v 122))), (.di 149 (.ite (.v 47) (.v 64) (.v 132))), (.db 139 (.ite (.v 47) (.v 55) (.v 123))), (.db 140 (.ite (.v 47) (.v 56) (.v 124))), (.di 150 (.ite (.v 47) (.v 65) (.v 133))), (.db 141 (.ite (.v 47) (.v 57) (.v 125))), (.db 142 (.ite (.v 47) (.v 58) (.v 126))), (.di 151 (.ite (.v 47) (.v 66) (.v 134))), (.db 143 (.ite (.v 47) (.v 59) (.v 127))), (.db 144 (.ite (.v 47) (.v 60) (.v 128))), (.di 152 (.ite (.v 47) (.v 67) (.v 135))), (.di 153 (.ite (.v 47) (.v 68) (.v 136))), (.di 154 (.ite (.v 47) (.v 69) (.v 137))), (.di 155 (.ite (.v 47) (.v 70) (.v 138))), (.db 145 (.ite (.v 47) (.v 61) (.v 129))), (.db 146 (.ite (.v 47) (.v 62) (.v 130))), (.db 147 (.or (.v 30) (.v 131))), (.db 148 (.or (.v 30) (.v 132))), (.di 156 (.ite (.v 30) (.v 35) (.v 139))), (.db 149 (.ite (.v 30) (.v 32) (.v 133))), (.di 157 (.ite (.v 30) (.v 37) (.v 140))), (.db 150 (.ite (.v 30) (.v 34) (.v 134))), (.di 158 (.ite (.v 30) (.v 38) (.v 141))), (.db 151 (.ite (.v 30) (.v 35) (.v 135))), (.di 159 (.ite (.v 30) (.v 39) (.v 142))), (.db 152 (.ite (.v 30) (.v 36) (.v 136))), (.di 160 (.ite (.v 30) (.v 40) (.v 143))), (.di 161 (.ite (.v 30) (.v 41) (.v 144))), (.di 162 (.ite (.v 30) (.v 42) (.v 145))), (.db 153 (.ite (.v 30) (.v 37) (.v 137))), (.di 163 (.ite (.v 30) (.v 43) (.v 146))), (.di 164 (.ite (.v 30) (.v 44) (.v 147))), (.di 165 (.ite (.v 30) (.v 45) (.v 148))), (.db 154 (.ite (.v 30) (.v 38) (.v 138))), (.di 166 (.ite (.v 30) (.v 46) (.v 149))), (.db 155 (.ite (.v 30) (.v 39) (.v 139))), (.db 156 (.ite (.v 30) (.v 40) (.v 140))), (.di 167 (.ite (.v 30) (.v 47) (.v 150))), (.db 157 (.ite (.v 30) (.v 41) (.v 141))), (.db 158 (.ite (.v 30) (.v 42) (.v 142))), (.di 168 (.ite (.v 30) (.v 48) (.v 151))), (.db 159 (.ite (.v 30) (.v 43) (.v 143))), (.db 160 (.ite (.v 30) (.v 44) (.v 144))), (.di 169 (.ite (.v 30) (.v 49) (.v 152))), (.di 170 (.ite (.v 30) (.v 50) (.v 153))), (.di 171 (.ite (.v 30) (.v 51) (.v 154))), (.di 172 (.ite (.v 30) (.v 52) (.v 155))), (.db 161 (.ite (.v 30) (.v 45) (.v 145))), (.db 162 (.ite (.v 30) (.v 46) (.v 146))), (.db 163 (.or (.v 15) (.v 147))), (.db 164 (.or (.v 15) (.v 148))), (.di 173 (.ite (.v 15) (.v 18) (.v 156))), (.db 165 (.ite (.v 15) (.v 16) (.v 149))), (.di 174 (.ite (.v 15) (.v 19) (.v 157))), (.db 166 (.ite (.v 15) (.v 17) (.v 150))), (.di 175 (.ite (.v 15) (.v 20) (.v 158))), (.db 167 (.ite (.v 15) (.v 18) (.v 151))), (.di 176 (.ite (.v 15) (.v 21) (.v 159))), (.db 168 (.ite (.v 15) (.v 19) (.v 152))), (.di 177 (.ite (.v 15) (.v 22) (.v 160))), (.di 178 (.ite (.v 15) (.v 23) (.v 161))), (.di 179 (.ite (.v 15) (.v 24) (.v 162))), (.db 169 (.ite (.v 15) (.v 20) (.v 153))), (.di 180 (.ite (.v 15) (.v 25) (.v 163))), (.di 181 (.ite (.v 15) (.v 26) (.v 164))), (.di 182 (.ite (.v 15) (.v 27) (.v 165))), (.db 170 (.ite (.v 15) (.v 21) (.v 154))), (.di 183 (.ite (.v 15) (.v 28) (.v 166))), (.db 171 (.ite (.v 15) (.v 22) (.v 155))), (.db 172 (.ite (.v 15) (.v 23) (.v 156))), (.di 184 (.ite (.v 15) (.v 29) (.v 167))), (.db 173 (.ite (.v 15) (.v 24) (.v 157))), (.db 174 (.ite (.v 15) (.v 25) (.v 158))), (.di 185 (.ite (.v 15) (.v 30) (.v 168))), (.db 175 (.ite (.v 15) (.v 26) (.v 159))), (.db 176 (.ite (.v 15) (.v 27) (.v 160))), (.di 186 (.ite (.v 15) (.v 31) (.v 169))), (.di 187 (.ite (.v 15) (.v 32) (.v 170))), (.di 188 (.ite (.v 15) (.v 33) (.v 171))), (.di 189 (.ite (.v 15) (.v 34) (.v 172))), (.db 177 (.ite (.v 15) (.v 28) (.v 161))), (.db 178 (.ite (.v 15) (.v 29) (.v 162))), (.db 179 (.cm .geq (.v 14) (.c 3))), (.db 180 (.cm .leq (.v 14) (.c 10))), (.db 181 (.and (.v 179) (.v 180))), (.call 55 [(.v 0), (.v 1), (.v 2), (.v 3), (.v 4), (.v 5), (.v 6), (.v 7), (.v 8), (.v 9), (.v 10), (.v 11), (.v 12), (.v 13), (.v 14), (.v 15), (.v 16), (.v 17)] [(.v 0), (.v 1), (.v 2), (.v 3), (.v 4), (.v 5), (.v 6), (.v 7), (.v 8), (.v 9), (.v 10), (.v 11), (.v 12), (.v 13), (.v 14)] 190 17 182 16), (.ob [((.v 15), false), ((.v 30), false), ((.v 47), false), ((.v 63), false), ((.v 82), false), ((.v 98), false), ((.v 181), true)] (.v 182)), (.call 56 [(.v 0), (.v 1), (.v 2), (.v 3), (.v 4), (.v 5), (.v 6), (.v 7), (.v 8), (.v 9), (.v 10), (.v 11), (.v 12), (.v 13), (.v 14), (.v 15), (.v 16), (.v 17)] [(.v 0), (.v 1), (.v 2), (.v 3), (.v 4), (.v 5), (.v 6), (.v 7), (.v 8), (.v 9), (.v 10), (.v 11), (.v 12), (.v 13), (.v 14)] 207 17 198 15), (.db 213 (.not (.v 181))), (.db 214 (.ite (.v 213) (.v 198) (.v 183))), (.di 224 (.ite (.v 213) (.v 207) (.v 190))), (.db 215 (.ite (.v 213) (.v 199) (.v 184))), (.di 225 (.ite (.v 213) (.v 208) (.v 191))), (.db 216 (.ite (.v 213) (.v 200) (.v 185))), (.di 226 (.ite (.v 213) (.v 209) (.v 192))), (.db 217 (.ite (.v 213) (.v 201) (.v 186))), (.di 227 (.ite (.v 213) (.v 210) (.v 193))), (.db 218 (.ite (.v 213) (.v 202) (.v 187))), (.di 228 (.ite (.v 213) (.v 211) (.v 194))), (.di 229 (.ite (.v 213) (.v 212) (.v 195))), (.di 230 (.ite (.v 213) (.v 213) (.v 196))), (.db 219 (.ite (.v 213) (.v 203) (.v 188))), (.di 231 (.ite (.v 213) (.v 214) (.v 197))), (.di 232 (.ite (.v 213) (.v 215) (.v 198))), (.di 233 (.ite (.v 213) (.v 216) (.v 199))), (.db 220 (.ite (.v 213) (.v 204) (.v 189))), (.di 234 (.ite (.v 213) (.v 217) (.v 200))), (.db 221 (.ite (.v 213) (.v 205) (.v 190))), (.db 222 (.ite (.v 213) (.v 206) (.v 191))), (.di 235 (.ite (.v 213) (.v 218) (.v 201))), (.db 223 (.ite (.v 213) (.v 207) (.v 192))), (.db 224 (.ite (.v 213) (.v 208) (.v 193))), (.di 236 (.ite (.v 213) (.v 219) (.v 202))), (.db 225 (.ite (.v 213) (.v 209) (.v 194))), (.db 226 (.ite (.v 213) (.v 210) (.v 195))), (.di 237 (.ite (.v 213) (.v 220) (.v 203))), (.di 238 (.ite (.v 213) (.v 221) (.v 204))), (.di 239 (.ite (.v 213) (.v 222) (.v 205))), (.di 240 (.ite (.v 213) (.v 223) (.v 206))), (.db 227 (.ite (.v 213) (.v 211) (.v 196))), (.db 228 (.ite (.v 213) (.v 212) (.v 197))), (.db 229 (.not (.v 15))), (.db 230 (.not (.v 30))), (.db 231 (.not (.v 47))), (.db 232 (.not (.v 63))), (.db 233 (.not (.v 82))), (.db 234 (.not (.v 98))), (.db 235 (.and (.v 233) (.v 234))), (.db 236 (.and (.v 232) (.v 235))), (.db 237 (.and (.v 231) (.v 236))), (.db 238 (.and (.v 230) (.v 237))), (.db 239 (.and (.v 229) (.v 238))), (.db 240 (.ite (.v 239) (.v 214) (.v 164))), (.di 241 (.ite (.v 239) (.v 224) (.v 173))), (.db 241 (.ite (.v 239) (.v 215) (.v 165))), (.di 242 (.ite (.v 239) (.v 225) (.v 174))), (.db 242 (.ite (.v 239) (.v 216) (.v 166))), (.di 243 (.ite (.v 239) (.v 226) (.v 175))), (.db 243 (.ite (.v 239) (.v 217) (.v 167))), (.di 244 (.ite (.v 239) (.v 227) (.v 176))), (.db 244 (.ite (.v 239) (.v 218) (.v 168))), (.di 245 (.ite (.v 239) (.v 228) (.v 177))), (.di 246 (.ite (.v 239) (.v 229) (.v 178))), (.di 247 (.ite (.v 239) (.v 230) (.v 179))), (.db 245 (.ite (.v 239) (.v 219) (.v 169))), (.di 248 (.ite (.v 239) (.v 231) (.v 180))), (.di 249 (.ite (.v 239) (.v 232) (.v 181))), (.di 250 (.ite (.v 239) (.v 233) (.v 182))), (.db 246 (.ite (.v 239) (.v 220) (.v 170))), (.di 251 (.ite (.v 239) (.v 234) (.v 183))), (.db 247 (.ite (.v 239) (.v 221) (.v 171))), (.db 248 (.ite (.v 239) (.v 222) (.v 172))), (.di 252 (.ite (.v 239) (.v 235) (.v 184))), (.db 249 (.ite (.v 239) (.v 223) (.v 173))), (.db 250 (.ite (.v 239) (.v 224) (.v 174))), (.di 253 (.ite (.v 239) (.v 236) (.v 185))), (.db 251 (.ite (.v 239) (.v 225) (.v 175))), (.db 252 (.ite (.v 239) (.v 226) (.v 176))), (.di 254 (.ite (.v 239) (.v 237) (.v 186))), (.di 255 (.ite (.v 239) (.v 238) (.v 187))), (.di 256 (.ite (.v 239) (.v 239) (.v 188))), (.di 257 (.ite (.v 239) (.v 240) (.v 189))), (.db 253 (.ite (.v 239) (.v 227) (.v 177))), (.db 254 (.ite (.v 239) (.v 228) (.v 178)))] [(.v 241), (.v 242), (.v 243), (.v 244), (.v 245), (.v 246), (.v 247), (.v 248), (.v 249), (.v 250), (.v 251), (.v 252), (.v 253), (.v 254), (.v 255), (.v 256), (.v 257)] [(.v 240), (.v 241), (.v 242), (.v 243), (.v 244), (.v 245), (.v 246), (.v 247), (.v 248), (.v 249), (.v 250), (.v 251), (.v 252), (.v 253), (.v 254)])
theorem k27 : fnX Tryz.prog (hnd Tryz.prog (gl m) inl (tabS T73)) (gl m) (ctlOf Tryz.f27 (gl m) s27) Tryz.f27 s27 = some S27 := by kernel_rfl
noncomputable def F27 : Fun := S27.run (tabF T73) true
theorem x27 : AllOk Tryz.prog (tabF T73) (gl m) (tabS T73) := A73
theorem y27 : LoopsOk (tabF T73) (ctlOf Tryz.f27 (gl m) s27) := (LoopsOk.nil rfl)
theorem z27 : (wsEm S27.em (argI s27.args) (argB s27.args) && shOk s27 && s27.pre) = true := by kernel_rfl
theorem d27 : Contract Tryz.prog (gl m) 27 s27 (S27.run (tabF T73) s27.pre) := contract_pre (hnd_ok x27 inl_ok) Tryz.func27 y27 k27 z27
theorem c27 : Contract Tryz.prog (gl m) 27 s27 F27 := d27
theorem call27 : ∀ args w, (callFunc 27 args).run Tryz.prog w = .ok (.enter 27 args) w := callable_of Tryz.func27 (by kernel_rfl) (by kernel_rfl)
noncomputable def e27 : Nat × Sum × Fun := (27, s27, F27)
noncomputable def T74 : List (Nat × Sum × Fun) := e27 :: T73
theorem A74 : AllOk Tryz.prog (tabF T74) (gl m) (tabS T74) := AllOk.cons (s := e27.2.1) c27 call27 (fun S h => by cases h) A73
end Go.Proofs.YtalnndmnnffnmaaGreat.Cr
/-! ## CrS6 -/
set_option linter.unusedVariables false
set_option linter.unusedSimpArgs false
namespace Go.Proofs.YtalnndmnnffnmaaGreat.Cr
open Go Go.Proofs Go.Proofs.YtalnndmnnffnmaaGreat.Sx
variable {m : Int}

/-! (*seepage/core.work).lines -/
def s28 : Sum := { args := [(.ptr ckl0), (.val true [.bool, .bool, .bool])], tup := true, res := [], pre := false }
def S28 : Smry := (.mk [(.di 17 (.ar .and .u8 (.v 5) (.c 4))), (.db 17 (.cm .gtr (.v 17) (.c 0))), (.db 18 (.or (.v 10) (.v 17))), (.db 19 (.not (.v 8))), (.db 20 (.and (.v 15) (.v 19))), (.db 21 (.or (.v 9) (.v 20))), (.di 18 (.ar .and .u8 (.v 4) (.c 4))), (.db 22 (.cm .eql (.v 18) (.c 0))), (.db 23 (.and (.v 14) (.v 22))), (.di 19 (.ite (.v 23) (.c 1) (.c 0))), (.di 20 (.ite (.v 21) (.c 2) (.v 19))), (.di 21 (.ite (.v 16) (.c 0) (.v 8))), (.di 22 (.ite (.v 16) (.c 3) (.v 11))), (.db 24 (.ite (.v 16) (.c false) (.v 11)))] [(.v 0), (.v 1), (.v 2), (.v 3), (.v 4), (.v 5), (.v 6), (.v 7), (.v 21), (.v 9), (.v 10), (.v 22), (.v 20), (.v 13), (.v 14), (.v 15), (.v 16)] [(.v 0), (.v 1), (.v 2), (.v 3), (.v 4), (.v 5), (.v 6), (.v 7), (.v 15), (.v 21), (.v 18), (.v 24), (.v 12), (.v 13)])
theorem k28 : fnX Tryz.prog (hnd Tryz.prog (gl m) inl (tabS T74)) (gl m) (ctlOf Tryz.f28 (gl m) s28) Tryz.f28 s28 = some S28 := by kernel_rfl
noncomputable def F28 : Fun := S28.run (tabF T74) false
theorem x28 : AllOk Tryz.prog (tabF T74) (gl m) (tabS T74) := A74
theorem y28 : LoopsOk (tabF T74) (ctlOf Tryz.f28 (gl m) s28) := (LoopsOk.nil rfl)
theorem z28 : (wsEm S28.em (argI s28.args) (argB s28.args) && shOk s28 && noOb S28.em) = true := by kernel_rfl
theorem d28 : Contract Tryz.prog (gl m) 28 s28 (S28.run (tabF T74) s28.pre) := contract_of (hnd_ok x28 inl_ok) Tryz.func28 y28 k28 z28
theorem c28 : Contract Tryz.prog (gl m) 28 s28 F28 := d28
theorem call28 : ∀ args w, (callFunc 28 args).run Tryz.prog w = .ok (.enter 28 args) w := callable_of Tryz.func28 (by kernel_rfl) (by kernel_rfl)
noncomputable def e28 : Nat × Sum × Fun := (28, s28, F28)
noncomputable def T75 : List (Nat × Sum × Fun) := e28 :: T74
theorem A75 : AllOk Tryz.prog (tabF T75) (gl m) (tabS T75) := AllOk.cons (s := e28.2.1) c28 call28 (fun S h => by cases h) A74
/-! seepage/core.Take -/
def s13 : Sum := { args := [(.val true ckl1), (.val true [(.int .u8), .bool]), (.val true [.bool, .bool, .bool])], tup := true, res := [(true, ckl1), (false, [(.int .i64)])], pre := true }
def S13 : Smry := (.mk [(.call 15 [(.v 0), (.v 1), (.v 2), (.v 3), (.v 4), (.v 5), (.v 6), (.v 7), (.v 8), (.v 9), (.v 10), (.v 11), (.v 12)] [(.v 0), (.v 1), (.v 2), (.v 3), (.v 4), (.v 5), (.v 6), (.v 7), (.v 8), (.v 9), (.v 10), (.v 11)] 14 1 16 0), (.db 16 (.cm .neq (.v 14) (.c 0))), (.call 25 [(.v 7)] [] 15 4 17 2), (.call 14 [(.v 0), (.v 1), (.v 2), (.v 3), (.v 4), (.v 5), (.v 6), (.v 7), (.v 8), (.v 9), (.v 10), (.v 11), (.v 12)] [(.v 0), (.v 1), (.v 2), (.v 3), (.v 4), (.v 5), (.v 6), (.v 7), (.v 8), (.v 9), (.v 10), (.v 11)] 19 2 19 4), (.ob [((.v 16), false), ((.v 10), false)] (.v 19)), (.db 23 (.or (.v 10) (.v 22))), (.db 24 (.cm .eql (.v 8) (.c 0))), (.call 26 [(.v 0), (.v 1), (.v 2), (.v 3), (.v 4), (.v 5), (.v 6), (.v 7), (.v 8), (.v 9), (.v 10), (.v 11), (.v 12), (.v 15), (.v 16), (.v 17), (.v 18), (.v 13)] [(.v 0), (.v 1), (.v 2), (.v 3), (.v 4), (.v 5), (.v 6), (.v 7), (.v 8), (.v 9), (.v 23), (.v 11), (.v 17), (.v 18), (.v 12)] 21 17 25 14), (.call 27 [(.v 0), (.v 1), (.v 2), (.v 3), (.v 4), (.v 5), (.v 6), (.v 7), (.v 8), (.v 9), (.v 10), (.v 11), (.v 12), (.v 15), (.v 16), (.v 17), (.v 18), (.v 13)] [(.v 0), (.v 1), (.v 2), (.v 3), (.v 4), (.v 5), (.v 6), (.v 7), (.v 8), (.v 9), (.v 23), (.v 11), (.v 17), (.v 18), (.v 12)] 38 17 39 16), (.ob [((.v 16), false), ((.v 24), false)] (.v 39)), (.db 55 (.cm .eql (.v 52) (.c 17))), (.di 55 (.ite (.v 55) (.c 0) (.v 50))), (.db 56 (.cm .eql (.v 55) (.c 2))), (.db 57 (.ite (.v 56) (.c false) (.v 50))), (.di 56 (.ar .add .i64 (.v 46) (.c 1))), (.di 57 (.ite (.v 40) (.c 0) (.v 56))), (.di 58 (.ite (.v 40) (.v 55) (.v 49))), (.db 58 (.ite (.v 40) (.v 57) (.v 50))), (.di 59 (.ite (.v 24) (.v 21) (.v 38))), (.db 59 (.ite (.v 24) (.v 25) (.v 41))), (.di 60 (.ite (.v 24) (.v 22) (.v 39))), (.db 60 (.ite (.v 24) (.v 26) (.v 42))), (.di 61 (.ite (.v 24) (.v 23) (.v 40))), (.db 61 (.ite (.v 24) (.v 27) (.v 43))), (.di 62 (.ite (.v 24) (.v 24) (.v 41))), (.db 62 (.ite (.v 24) (.v 28) (.v 44))), (.di 63 (.ite (.v 24) (.v 25) (.v 42))), (.di 64 (.ite (.v 24) (.v 26) (.v 43))), (.di 65 (.ite (.v 24) (.v 27) (.v 44))), (.db 63 (.ite (.v 24) (.v 29) (.v 45))), (.di 66 (.ite (.v 24) (.v 28) (.v 45))), (.di 67 (.ite (.v 24) (.c 1) (.v 57))), (.di 68 (.ite (.v 24) (.v 30) (.v 47))), (.db 64 (.ite (.v 24) (.v 30) (.v 46))), (.di 69 (.ite (.v 24) (.v 31) (.v 48))), (.db 65 (.ite (.v 24) (.v 31) (.v 47))), (.db 66 (.ite (.v 24) (.v 32) (.v 48))), (.di 70 (.ite (.v 24) (.v 32) (.v 58))), (.db 67 (.ite (.v 24) (.v 33) (.v 49))), (.db 68 (.ite (.v 24) (.v 34) (.v 58))), (.di 71 (.ite (.v 24) (.v 33) (.v 50))), (.db 69 (.ite (.v 24) (.v 35) (.v 51))), (.db 70 (.ite (.v 24) (.v 36) (.v 52))), (.di 72 (.ite (.v 24) (.v 34) (.v 51))), (.di 73 (.ite (.v 24) (.v 35) (.v 52))), (.di 74 (.ite (.v 24) (.v 36) (.v 53))), (.di 75 (.ite (.v 24) (.v 37) (.v 54))), (.db 71 (.ite (.v 24) (.v 37) (.v 53))), (.db 72 (.ite (.v 24) (.v 38) (.v 54))), (.call 28 [(.v 59), (.v 60), (.v 61), (.v 62), (.v 63), (.v 64), (.v 65), (.v 66), (.v 67), (.v 68), (.v 69), (.v 70), (.v 71), (.v 72), (.v 73), (.v 74), (.v 75)] [(.v 59), (.v 60), (.v 61), (.v 62), (.v 63), (.v 64), (.v 65), (.v 66), (.v 67), (.v 68), (.v 69), (.v 70), (.v 71), (.v 72), (.v 13), (.v 14), (.v 15)] 76 17 73 14), (.db 87 (.not (.v 16))), (.di 93 (.ite (.v 87) (.c 0) (.v 14))), (.di 94 (.ite (.v 87) (.v 76) (.v 0))), (.db 88 (.ite (.v 87) (.v 73) (.v 0))), (.di 95 (.ite (.v 87) (.v 77) (.v 1))), (.db 89 (.ite (.v 87) (.v 74) (.v 1))), (.di 96 (.ite (.v 87) (.v 78) (.v 2))), (.db 90 (.ite (.v 87) (.v 75) (.v 2))), (.di 97 (.ite (.v 87) (.v 79) (.v 3))), (.db 91 (.ite (.v 87) (.v 76) (.v 3))), (.di 98 (.ite (.v 87) (.v 80) (.v 4))), (.di 99 (.ite (.v 87) (.v 81) (.v 5))), (.di 100 (.ite (.v 87) (.v 82) (.v 6))), (.db 92 (.ite (.v 87) (.v 77) (.v 4))), (.di 101 (.ite (.v 87) (.v 83) (.v 7))), (.di 102 (.ite (.v 87) (.v 84) (.v 8))), (.di 103 (.ite (.v 87) (.v 85) (.v 9))), (.db 93 (.ite (.v 87) (.v 78) (.v 5))), (.di 104 (.ite (.v 87) (.v 86) (.v 10))), (.db 94 (.ite (.v 87) (.v 79) (.v 6))), (.db 95 (.ite (.v 87) (.v 80) (.v 7))), (.di 105 (.ite (.v 87) (.v 87) (.v 11))), (.db 96 (.ite (.v 87) (.v 81) (.v 8))), (.db 97 (.ite (.v 87) (.v 82) (.v 9))), (.di 106 (.ite (.v 87) (.v 88) (.v 12))), (.db 98 (.ite (.v 87) (.v 83) (.v 10))), (.db 99 (.ite (.v 87) (.v 84) (.v 11)))] [(.v 94), (.v 95), (.v 96), (.v 97), (.v 98), (.v 99), (.v 100), (.v 101), (.v 102), (.v 103), (.v 104), (.v 105), (.v 106), (.v 93)] [(.v 88), (.v 89), (.v 90), (.v 91), (.v 92), (.v 93), (.v 94), (.v 95), (.v 96), (.v 97), (.v 98), (.v 99)])
theorem k13 : fnX Tryz.prog (hnd Tryz.prog (gl m) inl (tabS T75)) (gl m) (ctlOf Tryz.f13 (gl m) s13) Tryz.f13 s13 = some S13 := by kernel_rfl
noncomputable def F13 : Fun := S13.run (tabF T75) true
theorem x13 : AllOk Tryz.prog (tabF T75) (gl m) (tabS T75) := A75
theorem y13 : LoopsOk (tabF T75) (ctlOf Tryz.f13 (gl m) s13) := (LoopsOk.nil rfl)
theorem z13 : (wsEm S13.em (argI s13.args) (argB s13.args) && shOk s13 && s13.pre) = true := by kernel_rfl
theorem d13 : Contract Tryz.prog (gl m) 13 s13 (S13.run (tabF T75) s13.pre) := contract_pre (hnd_ok x13 inl_ok) Tryz.func13 y13 k13 z13
theorem c13 : Contract Tryz.prog (gl m) 13 s13 F13 := d13
theorem call13 : ∀ args w, (callFunc 13 args).run Tryz.prog w = .ok (.enter 13 args) w := callable_of Tryz.func13 (by kernel_rfl) (by kernel_rfl)
noncomputable def e13 : Nat × Sum × Fun := (13, s13, F13)
noncomputable def T76 : List (Nat × Sum × Fun) := e13 :: T75
theorem A76 : AllOk Tryz.prog (tabF T76) (gl m) (tabS T76) := AllOk.cons (s := e13.2.1) c13 call13 (fun S h => by cases h) A75
/-! seepage/seepagelaw10.awake -/
def s9 : Sum := { args := [], tup := false, res := [(false, [.bool])], pre := true }
def S9 : Smry := (.mk [(.call 23 [] [] 0 13 0 12), (.call 14 [(.v 0), (.v 1), (.v 2), (.v 3), (.v 4), (.v 5), (.v 6), (.v 7), (.v 8), (.v 9), (.v 10), (.v 11), (.v 12)] [(.v 0), (.v 1), (.v 2), (.v 3), (.v 4), (.v 5), (.v 6), (.v 7), (.v 8), (.v 9), (.v 10), (.v 11)] 13 2 12 4), (.ob [] (.v 12)), (.call 100900 [(.c 0), (.v 0), (.v 1), (.v 2), (.v 3), (.v 4), (.v 5), (.v 6), (.v 7), (.v 8), (.v 9), (.v 10), (.v 11), (.v 12)] [(.v 0), (.v 1), (.v 2), (.v 3), (.v 4), (.v 5), (.v 6), (.v 7), (.v 8), (.v 9), (.v 10), (.v 11)] 15 13 16 15), (.ob [] (.v 16)), (.call 13 [(.c 0), (.c 0), (.c 0), (.c 0), (.c 0), (.c 0), (.c 0), (.c 169), (.c 1), (.c 0), (.c 0), (.c 0), (.c 0), (.c 3)] [(.c false), (.c false), (.c false), (.c false), (.c false), (.c false), (.c false), (.c false), (.c false), (.c false), (.c false), (.c false), (.c true), (.c false), (.c false), (.c false)] 28 14 31 13), (.ob [((.v 18), true)] (.v 31)), (.call 13 [(.c 0), (.c 0), (.c 0), (.c 0), (.c 0), (.c 2), (.c 0), (.c 208), (.c 1), (.c 0), (.c 0), (.c 0), (.c 0), (.c 0)] [(.c false), (.c false), (.c false), (.c false), (.c false), (.c false), (.c false), (.c false), (.c false), (.c false), (.c false), (.c false), (.c false), (.c false), (.c false), (.c false)] 42 14 44 13), (.ob [((.v 18), true)] (.v 44)), (.db 57 (.cm .eql (.v 13) (.c 0))), (.db 58 (.eqb (.v 13) (.c false))), (.db 59 (.cm .eql (.v 14) (.c 0))), (.db 60 (.eqb (.v 14) (.c false))), (.db 61 (.and (.v 59) (.v 60))), (.db 62 (.eqb (.v 15) (.c false))), (.db 63 (.and (.v 61) (.v 62))), (.db 64 (.and (.v 58) (.v 63))), (.db 65 (.and (.v 57) (.v 64))), (.db 66 (.cm .eql (.v 21) (.c 4626))), (.db 67 (.and (.v 65) (.v 66))), (.db 68 (.cm .eql (.v 23) (.c 0))), (.db 69 (.and (.v 67) (.v 68))), (.db 70 (.cm .eql (.v 26) (.c 0))), (.db 71 (.and (.v 69) (.v 70))), (.db 72 (.cm .eql (.v 28) (.c 3))), (.db 73 (.and (.v 72) (.v 32))), (.db 74 (.and (.v 71) (.v 73))), (.db 75 (.not (.v 42))), (.db 76 (.and (.v 74) (.v 75))), (.db 77 (.cm .eql (.v 41) (.c 0))), (.db 78 (.and (.v 76) (.v 77))), (.db 79 (.and (.v 78) (.v 55))), (.db 80 (.cm .eql (.v 55) (.c 0))), (.db 81 (.and (.v 79) (.v 80))), (.db 82 (.and (.v 18) (.v 81)))] [] [(.v 82)])
def L100900 : LAnn := { id := 100900, ga := [], gb := [], hv := [3], dr := [10, 11, 12, 13, 15, 16, 17, 18, 19, 20, 21, 22, 23, 24, 26, 27, 28, 29, 30, 31, 32, 33, 34, 35, 36, 37, 38, 39, 40, 41, 42, 43, 44, 45, 46, 47, 48, 49, 50, 51, 52, 53, 54, 55, 56, 57, 58, 59, 60, 61, 62, 63, 64, 65, 66, 67, 68, 69, 70, 71, 72, 73, 74, 75, 76, 77, 78, 79, 80, 81, 82, 83, 84, 85, 86, 87, 88], hb := [1], db := [], xs := [0], xb := [1], nI := 14, nB := 12, S := (.mk [(.db 12 (.cm .lss (.v 0) (.c 7))), (.call 13 [(.v 1), (.v 2), (.v 3), (.v 4), (.v 5), (.v 6), (.v 7), (.v 8), (.v 9), (.v 10), (.v 11), (.v 12), (.v 13), (.c 18)] [(.v 0), (.v 1), (.v 2), (.v 3), (.v 4), (.v 5), (.v 6), (.v 7), (.v 8), (.v 9), (.v 10), (.v 11), (.c false), (.c false), (.c false), (.c false)] 14 14 13 13), (.ob [((.v 12), true)] (.v 13)), (.db 26 (.cm .neq (.v 27) (.c 0))), (.db 27 (.not (.v 26))), (.di 28 (.ar .add .i64 (.v 0) (.c 1))), (.db 28 (.not (.v 26))), (.db 29 (.not (.v 26))), (.db 30 (.and (.v 12) (.v 29))), (.db 31 (.and (.v 12) (.v 26))), (.db 32 (.not (.v 12)))] [(.v 28), (.v 14), (.v 15), (.v 16), (.v 17), (.v 18), (.v 19), (.v 20), (.v 21), (.v 22), (.v 23), (.v 24), (.v 25), (.v 26), (.v 1), (.v 2), (.v 3), (.v 4), (.v 5), (.v 6), (.v 7), (.v 8), (.v 9), (.v 10), (.v 11), (.v 12), (.v 13)] [(.v 30), (.v 14), (.v 15), (.v 16), (.v 17), (.v 18), (.v 19), (.v 20), (.v 21), (.v 22), (.v 23), (.v 24), (.v 25), (.v 31), (.v 32), (.v 0), (.v 1), (.v 2), (.v 3), (.v 4), (.v 5), (.v 6), (.v 7), (.v 8), (.v 9), (.v 10), (.v 11)]) }
def l9 : List (Nat × LAnn) := [(5, L100900)]
def fnXb (P : Program) (X : Hnd) (gl : Gl) (k : Ctl) (fn : Func) (s : Sum) (S : Smry) : Bool := match fnX P X gl k fn s with
  | some R => R.eq S
  | none => false
theorem fnXb_ok {P : Program} {X : Hnd} {gl : Gl} {k : Ctl} {fn : Func} {s : Sum} {S : Smry} (h : fnXb P X gl k fn s S = true) : fnX P X gl k fn s = some S := by
  unfold fnXb at h
  split at h
  · rename_i R hR; rw [hR, Smry.eq_sound h]
  · cases h
theorem k9 : fnX Tryz.prog (hnd Tryz.prog (gl m) inl (tabS T76)) (gl m) (ctlL Tryz.f9 (gl m) s9 l9) Tryz.f9 s9 = some S9 := fnXb_ok (by kernel_rfl)
noncomputable def F9 : Fun := S9.run (lpF (l9.map (·.2)) (tabF T76)) true
theorem x9 : AllOk Tryz.prog (lpF (l9.map (·.2)) (tabF T76)) (gl m) (tabS T76) := (AllOk.loops (l := l9.map (·.2)) A76 (by kernel_rfl))
theorem y9 : LoopsOk (lpF (l9.map (·.2)) (tabF T76)) (ctlL Tryz.f9 (gl m) s9 l9) := (LoopsOk.of (fn := Tryz.f9) (gl := (gl m)) (s := s9) (l := l9) (by kernel_rfl))
theorem z9 : (wsEm S9.em (argI s9.args) (argB s9.args) && shOk s9 && s9.pre) = true := by kernel_rfl
theorem d9 : Contract Tryz.prog (gl m) 9 s9 (S9.run (lpF (l9.map (·.2)) (tabF T76)) s9.pre) := contract_pre (hnd_ok x9 inl_ok) Tryz.func9 y9 k9 z9
theorem c9 : Contract Tryz.prog (gl m) 9 s9 F9 := d9
theorem call9 : ∀ args w, (callFunc 9 args).run Tryz.prog w = .ok (.enter 9 args) w := callable_of Tryz.func9 (by kernel_rfl) (by kernel_rfl)
noncomputable def e9 : Nat × Sum × Fun := (9, s9, F9)
noncomputable def T77 : List (Nat × Sum × Fun) := e9 :: T76
theorem A77 : AllOk Tryz.prog (tabF T77) (gl m) (tabS T77) := AllOk.cons (s := e9.2.1) c9 call9 (fun S h => by cases h) A76
/-! seepage/core.Wait -/
def s16 : Sum := { args := [(.val true ckl1), (.val true [.bool, .bool, .bool])], tup := true, res := [(true, ckl1), (false, [(.int .i64)])], pre := false }
def S16 : Smry := (.mk [(.call 15 [(.v 0), (.v 1), (.v 2), (.v 3), (.v 4), (.v 5), (.v 6), (.v 7), (.v 8), (.v 9), (.v 10), (.v 11), (.v 12)] [(.v 0), (.v 1), (.v 2), (.v 3), (.v 4), (.v 5), (.v 6), (.v 7), (.v 8), (.v 9), (.v 10), (.v 11)] 13 1 15 0), (.db 15 (.cm .neq (.v 13) (.c 0))), (.call 28 [(.v 0), (.v 1), (.v 2), (.v 3), (.v 4), (.v 5), (.v 6), (.v 7), (.v 8), (.v 9), (.v 10), (.v 11), (.v 12), (.c 0), (.c 0), (.c 0), (.c 0)] [(.v 0), (.v 1), (.v 2), (.v 3), (.v 4), (.v 5), (.v 6), (.v 7), (.v 8), (.v 9), (.v 10), (.v 11), (.c false), (.c false), (.v 12), (.v 13), (.v 14)] 14 17 16 14), (.db 30 (.not (.v 15))), (.di 31 (.ite (.v 30) (.c 0) (.v 13))), (.di 32 (.ite (.v 30) (.v 14) (.v 0))), (.db 31 (.ite (.v 30) (.v 16) (.v 0))), (.di 33 (.ite (.v 30) (.v 15) (.v 1))), (.db 32 (.ite (.v 30) (.v 17) (.v 1))), (.di 34 (.ite (.v 30) (.v 16) (.v 2))), (.db 33 (.ite (.v 30) (.v 18) (.v 2))), (.di 35 (.ite (.v 30) (.v 17) (.v 3))), (.db 34 (.ite (.v 30) (.v 19) (.v 3))), (.di 36 (.ite (.v 30) (.v 18) (.v 4))), (.di 37 (.ite (.v 30) (.v 19) (.v 5))), (.di 38 (.ite (.v 30) (.v 20) (.v 6))), (.db 35 (.ite (.v 30) (.v 20) (.v 4))), (.di 39 (.ite (.v 30) (.v 21) (.v 7))), (.di 40 (.ite (.v 30) (.v 22) (.v 8))), (.di 41 (.ite (.v 30) (.v 23) (.v 9))), (.db 36 (.ite (.v 30) (.v 21) (.v 5))), (.di 42 (.ite (.v 30) (.v 24) (.v 10))), (.db 37 (.ite (.v 30) (.v 22) (.v 6))), (.db 38 (.ite (.v 30) (.v 23) (.v 7))), (.di 43 (.ite (.v 30) (.v 25) (.v 11))), (.db 39 (.ite (.v 30) (.v 24) (.v 8))), (.db 40 (.ite (.v 30) (.v 25) (.v 9))), (.di 44 (.ite (.v 30) (.v 26) (.v 12))), (.db 41 (.ite (.v 30) (.v 26) (.v 10))), (.db 42 (.ite (.v 30) (.v 27) (.v 11)))] [(.v 32), (.v 33), (.v 34), (.v 35), (.v 36), (.v 37), (.v 38), (.v 39), (.v 40), (.v 41), (.v 42), (.v 43), (.v 44), (.v 31)] [(.v 31), (.v 32), (.v 33), (.v 34), (.v 35), (.v 36), (.v 37), (.v 38), (.v 39), (.v 40), (.v 41), (.v 42)])
theorem k16 : fnX Tryz.prog (hnd Tryz.prog (gl m) inl (tabS T77)) (gl m) (ctlOf Tryz.f16 (gl m) s16) Tryz.f16 s16 = some S16 := by kernel_rfl
noncomputable def F16 : Fun := S16.run (tabF T77) false
theorem x16 : AllOk Tryz.prog (tabF T77) (gl m) (tabS T77) := A77
theorem y16 : LoopsOk (tabF T77) (ctlOf Tryz.f16 (gl m) s16) := (LoopsOk.nil rfl)
theorem z16 : (wsEm S16.em (argI s16.args) (argB s16.args) && shOk s16 && noOb S16.em) = true := by kernel_rfl
theorem d16 : Contract Tryz.prog (gl m) 16 s16 (S16.run (tabF T77) s16.pre) := contract_of (hnd_ok x16 inl_ok) Tryz.func16 y16 k16 z16
theorem c16 : Contract Tryz.prog (gl m) 16 s16 F16 := d16
theorem call16 : ∀ args w, (callFunc 16 args).run Tryz.prog w = .ok (.enter 16 args) w := callable_of Tryz.func16 (by kernel_rfl) (by kernel_rfl)
noncomputable def e16 : Nat × Sum × Fun := (16, s16, F16)
noncomputable def T78 : List (Nat × Sum × Fun) := e16 :: T77
theorem A78 : AllOk Tryz.prog (tabF T78) (gl m) (tabS T78) := AllOk.cons (s := e16.2.1) c16 call16 (fun S h => by cases h) A77
end Go.Proofs.YtalnndmnnffnmaaGreat.Cr
/-! ## CrW -/
set_option linter.unusedVariables false
set_option linter.unusedSimpArgs false
namespace Go.Proofs.YtalnndmnnffnmaaGreat.Cr
open Go Go.Proofs Go.Proofs.YtalnndmnnffnmaaGreat.Sx

/-- In how many cycles at the most an instruction is done. -/
def most (n : Nat) : Int := if mdT.getD n 0 = 11 then cyT.getD n 0 + 2 else if crT.getD n false then cyT.getD n 0 + 1 else if mdT.getD n 0 = 20 then 2 else cyT.getD n 0
def tmay (op t : Int) : Bool := decide (0 ≤ t) && (decide (t ≤ 0) || decide (t < most op.toNat))
def may (p s op t intr pend : Int) : Bool := tmay op t && (decide (0 ≤ intr) && decide (intr ≤ 3)) && (decide (0 ≤ pend) && decide (pend ≤ 2)) && decide (arI .and .u8 p 207 = p) && decide (arI .and .u8 s 207 = s)
theorem f25 {Φ : Funs} (h : Φ 25 = F25) (i : Int) : Φ 25 [i] [] = dec i.toNat := by rw [h]; rfl
theorem cy_le (n : Nat) : 0 ≤ cyT.getD n 0 ∧ cyT.getD n 0 ≤ 8 := by
  by_cases h : n < 256
  · exact of_decide_eq_true (allR_spec (f := fun n => decide (0 ≤ cyT.getD n (0 : Int) ∧ cyT.getD n (0 : Int) ≤ 8)) (k := 8) (lo := 0) (by kernel_rfl) n (Nat.zero_le _) (by omega))
  · rw [getD_ge (by rw [show cyT.length = 256 by kernel_rfl]; omega)]; omega
theorem w15 (i0 i1 i2 i3 i4 i5 i6 i7 i8 i9 i10 i11 i12 : Int) (b0 b1 b2 b3 b4 b5 b6 b7 b8 b9 b10 b11 : Bool) : F15 [i0,i1,i2,i3,i4,i5,i6,i7,i8,i9,i10,i11,i12] [b0,b1,b2,b3,b4,b5,b6,b7,b8,b9,b10,b11] = ([if may i4 i5 i7 i8 i11 i12 then 0 else 1], []) := by
  unfold F15
  obtain ⟨ρ, e1, e2, e3, e4⟩ := Smry.run_spec (Φ := tabF T2) (S := S15) (is := [i0,i1,i2,i3,i4,i5,i6,i7,i8,i9,i10,i11,i12]) (bs := [b0,b1,b2,b3,b4,b5,b6,b7,b8,b9,b10,b11]) rfl
  rw [e1]
  simp only [S15, eqns, Em.eqn, headsI, headsB, RI.d, RB.d, A.d, B.d, cm_eql, cm_neq, cm_lss, cm_leq, cm_gtr, cm_geq, List.map_cons, List.map_nil, and_true, Nat.zero_add, Nat.reduceAdd, ltn, upto, true_and, Nat.add_zero, List.getD_cons_zero, List.getD_cons_succ] at e2 e3 e4 ⊢
  simp only [e2, e3] at e4 ⊢
  rw [f25 (Φ := tabF T2) rfl] at e4
  simp only [dec, eqns, Em.eqn, headsI, headsB, RI.d, RB.d, A.d, B.d, cm_eql, cm_neq, cm_lss, cm_leq, cm_gtr, cm_geq, List.map_cons, List.map_nil, and_true, Nat.zero_add, Nat.reduceAdd, ltn, upto, true_and, Nat.add_zero, List.getD_cons_zero, List.getD_cons_succ] at e4
  unfold may tmay most
  generalize nmT.getD i7.toNat 0 = nm at e4 ⊢
  generalize mdT.getD i7.toNat 0 = md at e4 ⊢
  generalize usT.getD i7.toNat 0 = us at e4 ⊢
  generalize hcy : cyT.getD i7.toNat 0 = cy at e4 ⊢
  generalize crT.getD i7.toNat false = cr at e4 ⊢
  generalize gdT.getD i7.toNat false = gd at e4 ⊢
  generalize arI .and .u8 i4 207 = p' at e4 ⊢
  generalize arI .and .u8 i5 207 = s' at e4 ⊢
  have hc := cy_le i7.toNat
  rw [hcy] at hc
  obtain ⟨⟨⟨a1, a2, a3, a4⟩, a5, a6⟩, a7, a8, a9, a10, a11, a12, a13, a14, a15, a16, a17, a18, a19, a20, a21, a22, a23, a24, a25, a26, a27, a28, a29, a30, a31, a32, a33, a34, a35⟩ := e4
  rw [a2] at a7 a10
  rw [a4, show arI .add .i64 cy 2 = cy + 2 from wrap_i64_in (by omega) (by omega)] at a8
  rw [a4, show arI .add .i64 cy 1 = cy + 1 from wrap_i64_in (by omega) (by omega)] at a9
  have key : ρ.i 21 = if md = 11 then cy + 2 else if cr = true then cy + 1 else if md = 20 then 2 else cy := by
    simp only [a13, a12, a11, a10, a9, a8, a7, a5, a4, beq_iff_eq]
  rw [← key]
  generalize ρ.i 21 = mo at a16 ⊢
  simp only [a35, a34, a33, a32, a31, a30, a29, a28, a27, a26, a25, a24, a23, a22, a21, a20, a19, a18, a17, a16, a15, a14]
  congr 2
  have : (!(decide (i8 < 0) || decide (0 < i8) && decide (mo ≤ i8) || decide (i11 < 0) || decide (3 < i11) || decide (i12 < 0) || decide (2 < i12) || !(p' == i4 && s' == i5))) =
    ((decide (0 ≤ i8) && (decide (i8 ≤ 0) || decide (i8 < mo))) && (decide (0 ≤ i11) && decide (i11 ≤ 3)) && (decide (0 ≤ i12) && decide (i12 ≤ 2)) && decide (p' = i4) && decide (s' = i5)) := by
    rw [Bool.eq_iff_iff]
    simp only [Bool.not_eq_true', Bool.or_eq_false_iff, Bool.and_eq_false_iff, Bool.and_eq_true, Bool.or_eq_true, decide_eq_true_eq, decide_eq_false_iff_not, Bool.not_eq_false', beq_iff_eq]
    omega
  simp only [this]
end Go.Proofs.YtalnndmnnffnmaaGreat.Cr
/-! ## CrV -/
set_option linter.unusedVariables false
set_option linter.unusedSimpArgs false
namespace Go.Proofs.YtalnndmnnffnmaaGreat.Cr
open Go Go.Proofs Go.Proofs.YtalnndmnnffnmaaGreat.Sx

noncomputable def V25 : VF := (VF.at0 dec).split 0
theorem v25 : VOk F25 V25 := VF.at0_ok.split 0
noncomputable def TV0 : List (Nat × VF) := []
theorem vt0 : ∀ f, VOk (tabF T0 f) (tabV TV0 f) := tabV_nil
noncomputable def TV1 : List (Nat × VF) := (25, V25) :: TV0
theorem vt1 : ∀ f, VOk (tabF T1 f) (tabV TV1 f) := tabV_cons v25 vt0
/-! seepage/alu.Check -/
noncomputable def V37 : VF := S37.va (tabV TV1) false
theorem v37 : VOk F37 V37 := Smry.va_ok vt1
noncomputable def TV2 : List (Nat × VF) := (37, V37) :: TV1
theorem vt2 : ∀ f, VOk (tabF T2 f) (tabV TV2 f) := tabV_cons v37 vt1
/-! seepage/core.Check -/
theorem eta {α : Type} (d : α) {n : Nat} {l : List α} (h : l.length = n) : l = (List.range n).map fun j => l.getD j d := by
  apply List.ext_getElem
  · simp [h]
  · intro j h1 h2
    simp [h1]
def sig15 : List VI := [VI.top, VI.top, VI.top, VI.top, VI.msk 207, VI.msk 207, VI.top, VI.top, VI.top, VI.top, VI.top, VI.of [0, 1, 2, 3], VI.of [0, 1, 2]]
def okC (li : List VI) : Bool := leI li sig15 && (match (li.getD 7 VI.top).vs, (li.getD 8 VI.top).vs with
  | some O, some T => O.all fun o => T.all fun t => tmay o t
  | _, _ => false)
/-- What the check's numbers are, as numbers. -/
theorem okC_ok {li : List VI} {is : List Int} (h : okC li = true) (hi : VwI li is) : li.length = 13 ∧ may (is.getD 4 0) (is.getD 5 0) (is.getD 7 0) (is.getD 8 0) (is.getD 11 0) (is.getD 12 0) = true := by
  unfold okC at h
  simp only [Bool.and_eq_true] at h
  obtain ⟨hs, hp⟩ := h
  obtain ⟨hw, hlen⟩ := leI_ok hs hi
  refine ⟨hlen.trans rfl, ?_⟩
  have m4 : arI .and .u8 (is.getD 4 0) 207 = is.getD 4 0 := (hw 4).2 207 rfl
  have m5 : arI .and .u8 (is.getD 5 0) 207 = is.getD 5 0 := (hw 5).2 207 rfl
  have a11 : is.getD 11 0 ∈ [(0 : Int), 1, 2, 3] := (hw 11).1 _ rfl
  have a12 : is.getD 12 0 ∈ [(0 : Int), 1, 2] := (hw 12).1 _ rfl
  unfold may
  simp only [Bool.and_eq_true, decide_eq_true_eq]
  simp only [List.mem_cons, List.not_mem_nil, or_false] at a11 a12
  refine ⟨⟨⟨⟨?_, by omega⟩, by omega⟩, m4⟩, m5⟩
  split at hp
  · rename_i O T hO hT
    exact List.all_eq_true.1 (List.all_eq_true.1 hp _ ((hi 7).1 O hO)) _ ((hi 8).1 T hT)
  · cases hp
noncomputable def V15 : VF := fun li lb => if okC li && Nat.beq lb.length 12 then ([VI.cst 0], []) else S15.va (tabV TV2) false li lb
theorem v15 : VOk F15 V15 := by
  intro li lb is bs h1 h2 hi hb
  unfold V15
  split
  · rename_i h
    simp only [Bool.and_eq_true, Nat.beq_eq] at h
    obtain ⟨hl, hm⟩ := okC_ok h.1 hi
    rw [eta 0 (h1.trans hl), eta false (h2.trans h.2)]
    show VwI [VI.cst 0] (F15 [is.getD 0 0, is.getD 1 0, is.getD 2 0, is.getD 3 0, is.getD 4 0, is.getD 5 0, is.getD 6 0, is.getD 7 0, is.getD 8 0, is.getD 9 0, is.getD 10 0, is.getD 11 0, is.getD 12 0]
      [bs.getD 0 false, bs.getD 1 false, bs.getD 2 false, bs.getD 3 false, bs.getD 4 false, bs.getD 5 false, bs.getD 6 false, bs.getD 7 false, bs.getD 8 false, bs.getD 9 false, bs.getD 10 false, bs.getD 11 false]).1 ∧ _
    rw [w15, if_pos hm]
    exact ⟨Vw.cons VI.cst_ok VwI.nil, VwB.nil⟩
  · exact Smry.va_ok vt2 li lb is bs h1 h2 hi hb
noncomputable def TV3 : List (Nat × VF) := (15, V15) :: TV2
theorem vt3 : ∀ f, VOk (tabF T3 f) (tabV TV3 f) := tabV_cons v15 vt2
/-! seepage/core.New -/
noncomputable def V23 : VF := S23.va (tabV TV3) false
theorem v23 : VOk F23 V23 := Smry.va_ok vt3
noncomputable def TV4 : List (Nat × VF) := (23, V23) :: TV3
theorem vt4 : ∀ f, VOk (tabF T4 f) (tabV TV4 f) := tabV_cons v23 vt3
/-! seepage/label.Split -/
noncomputable def V57 : VF := S57.va (tabV TV4) false
theorem v57 : VOk F57 V57 := Smry.va_ok vt4
noncomputable def TV5 : List (Nat × VF) := (57, V57) :: TV4
theorem vt5 : ∀ f, VOk (tabF T5 f) (tabV TV5 f) := tabV_cons v57 vt4
/-! (*seepage/core.work).push -/
noncomputable def V32 : VF := S32.va (tabV TV5) false
theorem v32 : VOk F32 V32 := Smry.va_ok vt5
noncomputable def TV6 : List (Nat × VF) := (32, V32) :: TV5
theorem vt6 : ∀ f, VOk (tabF T6 f) (tabV TV6 f) := tabV_cons v32 vt5
/-! seepage/alu.Push -/
noncomputable def V58 : VF := S58.va (tabV TV6) false
theorem v58 : VOk F58 V58 := Smry.va_ok vt6
noncomputable def TV7 : List (Nat × VF) := (58, V58) :: TV6
theorem vt7 : ∀ f, VOk (tabF T7 f) (tabV TV7 f) := tabV_cons v58 vt6
/-! (*seepage/core.work).pushed -/
noncomputable def V34 : VF := S34.va (tabV TV7) false
theorem v34 : VOk F34 V34 := Smry.va_ok vt7
noncomputable def TV8 : List (Nat × VF) := (34, V34) :: TV7
theorem vt8 : ∀ f, VOk (tabF T8 f) (tabV TV8 f) := tabV_cons v34 vt7
/-! (*seepage/core.work).broken -/
noncomputable def V35 : VF := S35.va (tabV TV8) true
theorem v35 : VOk F35 V35 := Smry.va_ok vt8
noncomputable def TV9 : List (Nat × VF) := (35, V35) :: TV8
theorem vt9 : ∀ f, VOk (tabF T9 f) (tabV TV9 f) := tabV_cons v35 vt8
/-! (*seepage/core.work).first -/
noncomputable def V59 : VF := S59.va (tabV TV9) true
theorem v59 : VOk F59 V59 := Smry.va_ok vt9
noncomputable def TV10 : List (Nat × VF) := (59, V59) :: TV9
theorem vt10 : ∀ f, VOk (tabF T10 f) (tabV TV10 f) := tabV_cons v59 vt9
/-! seepage/label.And -/
noncomputable def V95 : VF := S95.va (tabV TV10) false
theorem v95 : VOk F95 V95 := Smry.va_ok vt10
noncomputable def TV11 : List (Nat × VF) := (95, V95) :: TV10
theorem vt11 : ∀ f, VOk (tabF T11 f) (tabV TV11 f) := tabV_cons v95 vt10
/-! (*seepage/core.work).stored -/
noncomputable def V60 : VF := (S60.va (tabV TV11) true).split 13
theorem v60 : VOk F60 V60 := VOk.split (Smry.va_ok vt11) 13
noncomputable def TV12 : List (Nat × VF) := (60, V60) :: TV11
theorem vt12 : ∀ f, VOk (tabF T12 f) (tabV TV12 f) := tabV_cons v60 vt11
/-! seepage/label.Bit -/
noncomputable def V107 : VF := S107.va (tabV TV12) false
theorem v107 : VOk F107 V107 := Smry.va_ok vt12
noncomputable def TV13 : List (Nat × VF) := (107, V107) :: TV12
theorem vt13 : ∀ f, VOk (tabF T13 f) (tabV TV13 f) := tabV_cons v107 vt12
/-! seepage/alu.Set -/
noncomputable def V105 : VF := S105.va (tabV TV13) false
theorem v105 : VOk F105 V105 := Smry.va_ok vt13
noncomputable def TV14 : List (Nat × VF) := (105, V105) :: TV13
theorem vt14 : ∀ f, VOk (tabF T14 f) (tabV TV14 f) := tabV_cons v105 vt13
/-! seepage/alu.NZ -/
noncomputable def V103 : VF := S103.va (tabV TV14) false
theorem v103 : VOk F103 V103 := Smry.va_ok vt14
noncomputable def TV15 : List (Nat × VF) := (103, V103) :: TV14
theorem vt15 : ∀ f, VOk (tabF T15 f) (tabV TV15 f) := tabV_cons v103 vt14
/-! seepage/alu.shifted -/
noncomputable def V106 : VF := S106.va (tabV TV15) false
theorem v106 : VOk F106 V106 := Smry.va_ok vt15
noncomputable def TV16 : List (Nat × VF) := (106, V106) :: TV15
theorem vt16 : ∀ f, VOk (tabF T16 f) (tabV TV16 f) := tabV_cons v106 vt15
/-! seepage/alu.Asl -/
noncomputable def V67 : VF := S67.va (tabV TV16) false
theorem v67 : VOk F67 V67 := Smry.va_ok vt16
noncomputable def TV17 : List (Nat × VF) := (67, V67) :: TV16
theorem vt17 : ∀ f, VOk (tabF T17 f) (tabV TV17 f) := tabV_cons v67 vt16
/-! seepage/alu.Lsr -/
noncomputable def V68 : VF := S68.va (tabV TV17) false
theorem v68 : VOk F68 V68 := Smry.va_ok vt17
noncomputable def TV18 : List (Nat × VF) := (68, V68) :: TV17
theorem vt18 : ∀ f, VOk (tabF T18 f) (tabV TV18 f) := tabV_cons v68 vt17
/-! seepage/alu.Get -/
noncomputable def V108 : VF := S108.va (tabV TV18) false
theorem v108 : VOk F108 V108 := Smry.va_ok vt18
noncomputable def TV19 : List (Nat × VF) := (108, V108) :: TV18
theorem vt19 : ∀ f, VOk (tabF T19 f) (tabV TV19 f) := tabV_cons v108 vt18
/-! seepage/alu.Rol -/
noncomputable def V69 : VF := S69.va (tabV TV19) false
theorem v69 : VOk F69 V69 := Smry.va_ok vt19
noncomputable def TV20 : List (Nat × VF) := (69, V69) :: TV19
theorem vt20 : ∀ f, VOk (tabF T20 f) (tabV TV20 f) := tabV_cons v69 vt19
/-! seepage/alu.Ror -/
noncomputable def V70 : VF := S70.va (tabV TV20) false
theorem v70 : VOk F70 V70 := Smry.va_ok vt20
noncomputable def TV21 : List (Nat × VF) := (70, V70) :: TV20
theorem vt21 : ∀ f, VOk (tabF T21 f) (tabV TV21 f) := tabV_cons v70 vt20
/-! seepage/label.Or -/
noncomputable def V109 : VF := S109.va (tabV TV21) false
theorem v109 : VOk F109 V109 := Smry.va_ok vt21
noncomputable def TV22 : List (Nat × VF) := (109, V109) :: TV21
theorem vt22 : ∀ f, VOk (tabF T22 f) (tabV TV22 f) := tabV_cons v109 vt21
/-! (*seepage/core.work).ora -/
noncomputable def V71 : VF := S71.va (tabV TV22) false
theorem v71 : VOk F71 V71 := Smry.va_ok vt22
noncomputable def TV23 : List (Nat × VF) := (71, V71) :: TV22
theorem vt23 : ∀ f, VOk (tabF T23 f) (tabV TV23 f) := tabV_cons v71 vt22
/-! (*seepage/core.work).and -/
noncomputable def V72 : VF := S72.va (tabV TV23) false
theorem v72 : VOk F72 V72 := Smry.va_ok vt23
noncomputable def TV24 : List (Nat × VF) := (72, V72) :: TV23
theorem vt24 : ∀ f, VOk (tabF T24 f) (tabV TV24 f) := tabV_cons v72 vt23
/-! seepage/label.Xor -/
noncomputable def V110 : VF := S110.va (tabV TV24) false
theorem v110 : VOk F110 V110 := Smry.va_ok vt24
noncomputable def TV25 : List (Nat × VF) := (110, V110) :: TV24
theorem vt25 : ∀ f, VOk (tabF T25 f) (tabV TV25 f) := tabV_cons v110 vt24
/-! (*seepage/core.work).eor -/
noncomputable def V73 : VF := S73.va (tabV TV25) false
theorem v73 : VOk F73 V73 := Smry.va_ok vt25
noncomputable def TV26 : List (Nat × VF) := (73, V73) :: TV25
theorem vt26 : ∀ f, VOk (tabF T26 f) (tabV TV26 f) := tabV_cons v73 vt25
/-! seepage/alu.Adc -/
noncomputable def V111 : VF := S111.va (tabV TV26) false
theorem v111 : VOk F111 V111 := Smry.va_ok vt26
noncomputable def TV27 : List (Nat × VF) := (111, V111) :: TV26
theorem vt27 : ∀ f, VOk (tabF T27 f) (tabV TV27 f) := tabV_cons v111 vt26
/-! (*seepage/core.work).adc -/
noncomputable def V74 : VF := S74.va (tabV TV27) false
theorem v74 : VOk F74 V74 := Smry.va_ok vt27
noncomputable def TV28 : List (Nat × VF) := (74, V74) :: TV27
theorem vt28 : ∀ f, VOk (tabF T28 f) (tabV TV28 f) := tabV_cons v74 vt27
/-! seepage/alu.Sbx -/
noncomputable def V116 : VF := S116.va (tabV TV28) false
theorem v116 : VOk F116 V116 := Smry.va_ok vt28
noncomputable def TV29 : List (Nat × VF) := (116, V116) :: TV28
theorem vt29 : ∀ f, VOk (tabF T29 f) (tabV TV29 f) := tabV_cons v116 vt28
/-! seepage/alu.Cmp -/
noncomputable def V112 : VF := S112.va (tabV TV29) false
theorem v112 : VOk F112 V112 := Smry.va_ok vt29
noncomputable def TV30 : List (Nat × VF) := (112, V112) :: TV29
theorem vt30 : ∀ f, VOk (tabF T30 f) (tabV TV30 f) := tabV_cons v112 vt29
/-! (*seepage/core.work).cmp -/
noncomputable def V75 : VF := S75.va (tabV TV30) false
theorem v75 : VOk F75 V75 := Smry.va_ok vt30
noncomputable def TV31 : List (Nat × VF) := (75, V75) :: TV30
theorem vt31 : ∀ f, VOk (tabF T31 f) (tabV TV31 f) := tabV_cons v75 vt30
/-! seepage/alu.Sbc -/
noncomputable def V113 : VF := S113.va (tabV TV31) false
theorem v113 : VOk F113 V113 := Smry.va_ok vt31
noncomputable def TV32 : List (Nat × VF) := (113, V113) :: TV31
theorem vt32 : ∀ f, VOk (tabF T32 f) (tabV TV32 f) := tabV_cons v113 vt31
/-! (*seepage/core.work).sbc -/
noncomputable def V76 : VF := S76.va (tabV TV32) false
theorem v76 : VOk F76 V76 := Smry.va_ok vt32
noncomputable def TV33 : List (Nat × VF) := (76, V76) :: TV32
theorem vt33 : ∀ f, VOk (tabF T33 f) (tabV TV33 f) := tabV_cons v76 vt32
/-! (*seepage/core.work).turned -/
noncomputable def V50 : VF := (S50.va (tabV TV33) true).split 13
theorem v50 : VOk F50 V50 := VOk.split (Smry.va_ok vt33) 13
noncomputable def TV34 : List (Nat × VF) := (50, V50) :: TV33
theorem vt34 : ∀ f, VOk (tabF T34 f) (tabV TV34 f) := tabV_cons v50 vt33
/-! (*seepage/core.work).worked -/
noncomputable def V36 : VF := S36.va (tabV TV34) true
theorem v36 : VOk F36 V36 := Smry.va_ok vt34
noncomputable def TV35 : List (Nat × VF) := (36, V36) :: TV34
theorem vt35 : ∀ f, VOk (tabF T35 f) (tabV TV35 f) := tabV_cons v36 vt34
/-! seepage/core.Ask -/
noncomputable def V14 : VF := S14.va (tabV TV35) true
theorem v14 : VOk F14 V14 := Smry.va_ok vt35
noncomputable def TV36 : List (Nat × VF) := (14, V14) :: TV35
theorem vt36 : ∀ f, VOk (tabF T36 f) (tabV TV36 f) := tabV_cons v14 vt35
/-! (*seepage/core.work).fetch -/
noncomputable def V26 : VF := S26.va (tabV TV36) false
theorem v26 : VOk F26 V26 := Smry.va_ok vt36
noncomputable def TV37 : List (Nat × VF) := (26, V26) :: TV36
theorem vt37 : ∀ f, VOk (tabF T37 f) (tabV TV37 f) := tabV_cons v26 vt36
/-! (*seepage/core.work).flag -/
noncomputable def V66 : VF := S66.va (tabV TV37) false
theorem v66 : VOk F66 V66 := Smry.va_ok vt37
noncomputable def TV38 : List (Nat × VF) := (66, V66) :: TV37
theorem vt38 : ∀ f, VOk (tabF T38 f) (tabV TV38 f) := tabV_cons v66 vt37
/-! (*seepage/core.work).without -/
noncomputable def V49 : VF := S49.va (tabV TV38) false
theorem v49 : VOk F49 V49 := Smry.va_ok vt38
noncomputable def TV39 : List (Nat × VF) := (49, V49) :: TV38
theorem vt39 : ∀ f, VOk (tabF T39 f) (tabV TV39 f) := tabV_cons v49 vt38
/-! (*seepage/core.work).cpx -/
noncomputable def V77 : VF := S77.va (tabV TV39) false
theorem v77 : VOk F77 V77 := Smry.va_ok vt39
noncomputable def TV40 : List (Nat × VF) := (77, V77) :: TV39
theorem vt40 : ∀ f, VOk (tabF T40 f) (tabV TV40 f) := tabV_cons v77 vt39
/-! (*seepage/core.work).cpy -/
noncomputable def V78 : VF := S78.va (tabV TV40) false
theorem v78 : VOk F78 V78 := Smry.va_ok vt40
noncomputable def TV41 : List (Nat × VF) := (78, V78) :: TV40
theorem vt41 : ∀ f, VOk (tabF T41 f) (tabV TV41 f) := tabV_cons v78 vt40
/-! seepage/alu.Bit -/
noncomputable def V114 : VF := S114.va (tabV TV41) false
theorem v114 : VOk F114 V114 := Smry.va_ok vt41
noncomputable def TV42 : List (Nat × VF) := (114, V114) :: TV41
theorem vt42 : ∀ f, VOk (tabF T42 f) (tabV TV42 f) := tabV_cons v114 vt41
/-! (*seepage/core.work).bit -/
noncomputable def V79 : VF := S79.va (tabV TV42) false
theorem v79 : VOk F79 V79 := Smry.va_ok vt42
noncomputable def TV43 : List (Nat × VF) := (79, V79) :: TV42
theorem vt43 : ∀ f, VOk (tabF T43 f) (tabV TV43 f) := tabV_cons v79 vt42
/-! (*seepage/core.work).lda -/
noncomputable def V80 : VF := S80.va (tabV TV43) false
theorem v80 : VOk F80 V80 := Smry.va_ok vt43
noncomputable def TV44 : List (Nat × VF) := (80, V80) :: TV43
theorem vt44 : ∀ f, VOk (tabF T44 f) (tabV TV44 f) := tabV_cons v80 vt43
/-! (*seepage/core.work).ldx -/
noncomputable def V81 : VF := S81.va (tabV TV44) false
theorem v81 : VOk F81 V81 := Smry.va_ok vt44
noncomputable def TV45 : List (Nat × VF) := (81, V81) :: TV44
theorem vt45 : ∀ f, VOk (tabF T45 f) (tabV TV45 f) := tabV_cons v81 vt44
/-! (*seepage/core.work).ldy -/
noncomputable def V82 : VF := S82.va (tabV TV45) false
theorem v82 : VOk F82 V82 := Smry.va_ok vt45
noncomputable def TV46 : List (Nat × VF) := (82, V82) :: TV45
theorem vt46 : ∀ f, VOk (tabF T46 f) (tabV TV46 f) := tabV_cons v82 vt45
/-! (*seepage/core.work).lax -/
noncomputable def V83 : VF := S83.va (tabV TV46) false
theorem v83 : VOk F83 V83 := Smry.va_ok vt46
noncomputable def TV47 : List (Nat × VF) := (83, V83) :: TV46
theorem vt47 : ∀ f, VOk (tabF T47 f) (tabV TV47 f) := tabV_cons v83 vt46
/-! (*seepage/core.work).las -/
noncomputable def V84 : VF := S84.va (tabV TV47) false
theorem v84 : VOk F84 V84 := Smry.va_ok vt47
noncomputable def TV48 : List (Nat × VF) := (84, V84) :: TV47
theorem vt48 : ∀ f, VOk (tabF T48 f) (tabV TV48 f) := tabV_cons v84 vt47
/-! (*seepage/core.work).anc -/
noncomputable def V85 : VF := S85.va (tabV TV48) false
theorem v85 : VOk F85 V85 := Smry.va_ok vt48
noncomputable def TV49 : List (Nat × VF) := (85, V85) :: TV48
theorem vt49 : ∀ f, VOk (tabF T49 f) (tabV TV49 f) := tabV_cons v85 vt48
/-! (*seepage/core.work).alr -/
noncomputable def V86 : VF := S86.va (tabV TV49) false
theorem v86 : VOk F86 V86 := Smry.va_ok vt49
noncomputable def TV50 : List (Nat × VF) := (86, V86) :: TV49
theorem vt50 : ∀ f, VOk (tabF T50 f) (tabV TV50 f) := tabV_cons v86 vt49
/-! seepage/alu.Arr -/
noncomputable def V115 : VF := S115.va (tabV TV50) false
theorem v115 : VOk F115 V115 := Smry.va_ok vt50
noncomputable def TV51 : List (Nat × VF) := (115, V115) :: TV50
theorem vt51 : ∀ f, VOk (tabF T51 f) (tabV TV51 f) := tabV_cons v115 vt50
/-! (*seepage/core.work).arr -/
noncomputable def V87 : VF := S87.va (tabV TV51) false
theorem v87 : VOk F87 V87 := Smry.va_ok vt51
noncomputable def TV52 : List (Nat × VF) := (87, V87) :: TV51
theorem vt52 : ∀ f, VOk (tabF T52 f) (tabV TV52 f) := tabV_cons v87 vt51
/-! (*seepage/core.work).sbx -/
noncomputable def V88 : VF := S88.va (tabV TV52) false
theorem v88 : VOk F88 V88 := Smry.va_ok vt52
noncomputable def TV53 : List (Nat × VF) := (88, V88) :: TV52
theorem vt53 : ∀ f, VOk (tabF T53 f) (tabV TV53 f) := tabV_cons v88 vt52
/-! (*seepage/core.work).ane -/
noncomputable def V89 : VF := S89.va (tabV TV53) false
theorem v89 : VOk F89 V89 := Smry.va_ok vt53
noncomputable def TV54 : List (Nat × VF) := (89, V89) :: TV53
theorem vt54 : ∀ f, VOk (tabF T54 f) (tabV TV54 f) := tabV_cons v89 vt53
/-! (*seepage/core.work).lxa -/
noncomputable def V90 : VF := S90.va (tabV TV54) false
theorem v90 : VOk F90 V90 := Smry.va_ok vt54
noncomputable def TV55 : List (Nat × VF) := (90, V90) :: TV54
theorem vt55 : ∀ f, VOk (tabF T55 f) (tabV TV55 f) := tabV_cons v90 vt54
/-! (*seepage/core.work).with -/
noncomputable def V51 : VF := (S51.va (tabV TV55) true).split 13
theorem v51 : VOk F51 V51 := VOk.split (Smry.va_ok vt55) 13
noncomputable def TV56 : List (Nat × VF) := (51, V51) :: TV55
theorem vt56 : ∀ f, VOk (tabF T56 f) (tabV TV56 f) := tabV_cons v51 vt55
/-! (*seepage/core.work).taken -/
noncomputable def V91 : VF := S91.va (tabV TV56) true
theorem v91 : VOk F91 V91 := Smry.va_ok vt56
noncomputable def TV57 : List (Nat × VF) := (91, V91) :: TV56
theorem vt57 : ∀ f, VOk (tabF T57 f) (tabV TV57 f) := tabV_cons v91 vt56
/-! (*seepage/core.work).branch -/
noncomputable def V52 : VF := S52.va (tabV TV57) true
theorem v52 : VOk F52 V52 := Smry.va_ok vt57
noncomputable def TV58 : List (Nat × VF) := (52, V52) :: TV57
theorem vt58 : ∀ f, VOk (tabF T58 f) (tabV TV58 f) := tabV_cons v52 vt57
/-! seepage/alu.Pull -/
noncomputable def V93 : VF := S93.va (tabV TV58) false
theorem v93 : VOk F93 V93 := Smry.va_ok vt58
noncomputable def TV59 : List (Nat × VF) := (93, V93) :: TV58
theorem vt59 : ∀ f, VOk (tabF T59 f) (tabV TV59 f) := tabV_cons v93 vt58
/-! (*seepage/core.work).pulls -/
noncomputable def V53 : VF := S53.va (tabV TV59) false
theorem v53 : VOk F53 V53 := Smry.va_ok vt59
noncomputable def TV60 : List (Nat × VF) := (53, V53) :: TV59
theorem vt60 : ∀ f, VOk (tabF T60 f) (tabV TV60 f) := tabV_cons v53 vt59
/-! (*seepage/core.work).memory -/
noncomputable def V54 : VF := S54.va (tabV TV60) false
theorem v54 : VOk F54 V54 := Smry.va_ok vt60
noncomputable def TV61 : List (Nat × VF) := (54, V54) :: TV60
theorem vt61 : ∀ f, VOk (tabF T61 f) (tabV TV61 f) := tabV_cons v54 vt60
/-! seepage/label.Word -/
noncomputable def V121 : VF := S121.va (tabV TV61) false
theorem v121 : VOk F121 V121 := Smry.va_ok vt61
noncomputable def TV62 : List (Nat × VF) := (121, V121) :: TV61
theorem vt62 : ∀ f, VOk (tabF T62 f) (tabV TV62 f) := tabV_cons v121 vt61
/-! (*seepage/core.work).aim -/
noncomputable def V117 : VF := S117.va (tabV TV62) false
theorem v117 : VOk F117 V117 := Smry.va_ok vt62
noncomputable def TV63 : List (Nat × VF) := (117, V117) :: TV62
theorem vt63 : ∀ f, VOk (tabF T63 f) (tabV TV63 f) := tabV_cons v117 vt62
/-! (*seepage/core.work).wide -/
noncomputable def V118 : VF := S118.va (tabV TV63) false
theorem v118 : VOk F118 V118 := Smry.va_ok vt63
noncomputable def TV64 : List (Nat × VF) := (118, V118) :: TV63
theorem vt64 : ∀ f, VOk (tabF T64 f) (tabV TV64 f) := tabV_cons v118 vt63
/-! (*seepage/core.work).page -/
noncomputable def V119 : VF := S119.va (tabV TV64) false
theorem v119 : VOk F119 V119 := Smry.va_ok vt64
noncomputable def TV65 : List (Nat × VF) := (119, V119) :: TV64
theorem vt65 : ∀ f, VOk (tabF T65 f) (tabV TV65 f) := tabV_cons v119 vt64
/-! (*seepage/core.work).address -/
noncomputable def V94 : VF := S94.va (tabV TV65) false
theorem v94 : VOk F94 V94 := Smry.va_ok vt65
noncomputable def TV66 : List (Nat × VF) := (94, V94) :: TV65
theorem vt66 : ∀ f, VOk (tabF T66 f) (tabV TV66 f) := tabV_cons v94 vt65
/-! (*seepage/core.work).works -/
noncomputable def V55 : VF := S55.va (tabV TV66) true
theorem v55 : VOk F55 V55 := Smry.va_ok vt66
noncomputable def TV67 : List (Nat × VF) := (55, V55) :: TV66
theorem vt67 : ∀ f, VOk (tabF T67 f) (tabV TV67 f) := tabV_cons v55 vt66
/-! (*seepage/core.work).far -/
noncomputable def V96 : VF := S96.va (tabV TV67) false
theorem v96 : VOk F96 V96 := Smry.va_ok vt67
noncomputable def TV68 : List (Nat × VF) := (96, V96) :: TV67
theorem vt68 : ∀ f, VOk (tabF T68 f) (tabV TV68 f) := tabV_cons v96 vt67
/-! (*seepage/core.work).jump -/
noncomputable def V97 : VF := S97.va (tabV TV68) false
theorem v97 : VOk F97 V97 := Smry.va_ok vt68
noncomputable def TV69 : List (Nat × VF) := (97, V97) :: TV68
theorem vt69 : ∀ f, VOk (tabF T69 f) (tabV TV69 f) := tabV_cons v97 vt68
/-! (*seepage/core.work).call -/
noncomputable def V98 : VF := S98.va (tabV TV69) false
theorem v98 : VOk F98 V98 := Smry.va_ok vt69
noncomputable def TV70 : List (Nat × VF) := (98, V98) :: TV69
theorem vt70 : ∀ f, VOk (tabF T70 f) (tabV TV70 f) := tabV_cons v98 vt69
/-! (*seepage/core.work).back -/
noncomputable def V99 : VF := S99.va (tabV TV70) false
theorem v99 : VOk F99 V99 := Smry.va_ok vt70
noncomputable def TV71 : List (Nat × VF) := (99, V99) :: TV70
theorem vt71 : ∀ f, VOk (tabF T71 f) (tabV TV71 f) := tabV_cons v99 vt70
/-! (*seepage/core.work).interrupt -/
noncomputable def V100 : VF := S100.va (tabV TV71) false
theorem v100 : VOk F100 V100 := Smry.va_ok vt71
noncomputable def TV72 : List (Nat × VF) := (100, V100) :: TV71
theorem vt72 : ∀ f, VOk (tabF T72 f) (tabV TV72 f) := tabV_cons v100 vt71
/-! (*seepage/core.work).control -/
noncomputable def V56 : VF := S56.va (tabV TV72) false
theorem v56 : VOk F56 V56 := Smry.va_ok vt72
noncomputable def TV73 : List (Nat × VF) := (56, V56) :: TV72
theorem vt73 : ∀ f, VOk (tabF T73 f) (tabV TV73 f) := tabV_cons v56 vt72
/-! (*seepage/core.work).goes -/
noncomputable def V27 : VF := S27.va (tabV TV73) true
theorem v27 : VOk F27 V27 := Smry.va_ok vt73
noncomputable def TV74 : List (Nat × VF) := (27, V27) :: TV73
theorem vt74 : ∀ f, VOk (tabF T74 f) (tabV TV74 f) := tabV_cons v27 vt73
/-! (*seepage/core.work).lines -/
noncomputable def V28 : VF := S28.va (tabV TV74) false
theorem v28 : VOk F28 V28 := Smry.va_ok vt74
noncomputable def TV75 : List (Nat × VF) := (28, V28) :: TV74
theorem vt75 : ∀ f, VOk (tabF T75 f) (tabV TV75 f) := tabV_cons v28 vt74
/-! seepage/core.Take -/
noncomputable def V13 : VF := S13.va (tabV TV75) true
theorem v13 : VOk F13 V13 := Smry.va_ok vt75
noncomputable def TV76 : List (Nat × VF) := (13, V13) :: TV75
theorem vt76 : ∀ f, VOk (tabF T76 f) (tabV TV76 f) := tabV_cons v13 vt75
/-! seepage/seepagelaw10.awake -/
noncomputable def V9 : VF := S9.va (lpV (l9.map (·.2)) 12 (tabV TV76)) true
theorem v9 : VOk F9 V9 := Smry.va_ok (lpV_ok vt76)
noncomputable def TV77 : List (Nat × VF) := (9, V9) :: TV76
theorem vt77 : ∀ f, VOk (tabF T77 f) (tabV TV77 f) := tabV_cons v9 vt76
/-! seepage/core.Wait -/
noncomputable def V16 : VF := S16.va (tabV TV77) false
theorem v16 : VOk F16 V16 := Smry.va_ok vt77
noncomputable def TV78 : List (Nat × VF) := (16, V16) :: TV77
theorem vt78 : ∀ f, VOk (tabF T78 f) (tabV TV78 f) := tabV_cons v16 vt77
end Go.Proofs.YtalnndmnnffnmaaGreat.Cr
/-! ## CrXa -/
set_option linter.unusedVariables false
namespace Go.Proofs.YtalnndmnnffnmaaGreat.Cr
open Go Go.Proofs Go.Proofs.YtalnndmnnffnmaaGreat.Sx
def stI (O T : List Int) : List VI := [VI.top, VI.top, VI.top, VI.top, VI.msk 207, VI.msk 207, VI.top, VI.of O, VI.of T, VI.top, VI.top, VI.of [0, 1, 2, 3], VI.of [0, 1, 2]]
def outOk (o : List VI) : Bool := okC (o.take 13) && (match (o.getD 13 VI.top).vs with
  | some [.ofNat 0] => true
  | _ => false)
noncomputable def chkT (O : List Int) (v : VI) (t : Int) : Bool := match V13 (stI O [t] ++ [v]) (List.replicate 16 none) with
  | (oi, some true :: _) => outOk oi
  | _ => false
noncomputable def chkW (O : List Int) (t : Int) : Bool := outOk (V16 (stI O [t]) (List.replicate 15 none)).1
def all256 : List Int := (List.range 256).map Int.ofNat
theorem w_0 : chkW all256 0 = true := by kernel_rfl
theorem t_0 : chkT all256 (VI.of all256) 0 = true := by kernel_rfl
/-- Ctl, once it is set, stays. -/
def ctlB (n : Nat) : List VB := List.replicate 10 none ++ [some true] ++ List.replicate n none
noncomputable def chkC : Bool := match (V13 (List.replicate 14 VI.top) (ctlB 5)).2 with
  | _ :: b => (match b.getD 10 none with
    | some true => true
    | _ => false)
  | _ => false
noncomputable def chkCW : Bool := match (V16 (List.replicate 13 VI.top) (ctlB 4)).2.getD 10 none with
  | some true => true
  | _ => false
theorem ctl_t : chkC = true := by kernel_rfl
theorem ctl_w : chkCW = true := by kernel_rfl
/-- The chapter's examples. -/
theorem aw : (match (V9 [] []).2 with
  | [some true, some true] => true
  | _ => false) = true := by kernel_rfl
end Go.Proofs.YtalnndmnnffnmaaGreat.Cr
/-! ## CrX -/
set_option linter.unusedVariables false
namespace Go.Proofs.YtalnndmnnffnmaaGreat.Cr
open Go Go.Proofs Go.Proofs.YtalnndmnnffnmaaGreat.Sx
/-! (0, 0, 2, False) -/
def o0 : List Int := [24, 26, 56, 58, 88, 90, 120, 122, 136, 138, 152, 154, 168, 170, 184, 186, 200, 202, 216, 218, 232, 234, 248, 250]
theorem t0_1 : chkT o0 VI.top 1 = true := by kernel_rfl
theorem w0_1 : chkW o0 1 = true := by kernel_rfl
/-! (1, 0, 2, False) -/
def o1 : List Int := [10, 42, 74, 106]
theorem t1_1 : chkT o1 VI.top 1 = true := by kernel_rfl
theorem w1_1 : chkW o1 1 = true := by kernel_rfl
/-! (2, 1, 2, False) -/
def o2 : List Int := [9, 11, 41, 43, 73, 75, 105, 107, 128, 130, 137, 139, 160, 162, 169, 171, 192, 194, 201, 203, 224, 226, 233, 235]
theorem t2_1 : chkT o2 VI.top 1 = true := by kernel_rfl
theorem w2_1 : chkW o2 1 = true := by kernel_rfl
/-! (3, 1, 3, False) -/
def o3 : List Int := [4, 5, 36, 37, 68, 69, 100, 101, 164, 165, 166, 167, 196, 197, 228, 229]
theorem t3_1 : chkT o3 VI.top 1 = true := by kernel_rfl
theorem w3_1 : chkW o3 1 = true := by kernel_rfl
theorem t3_2 : chkT o3 VI.top 2 = true := by kernel_rfl
theorem w3_2 : chkW o3 2 = true := by kernel_rfl
/-! (3, 2, 3, False) -/
def o4 : List Int := [132, 133, 134, 135]
theorem t4_1 : chkT o4 VI.top 1 = true := by kernel_rfl
theorem w4_1 : chkW o4 1 = true := by kernel_rfl
theorem t4_2 : chkT o4 VI.top 2 = true := by kernel_rfl
theorem w4_2 : chkW o4 2 = true := by kernel_rfl
/-! (3, 3, 5, False) -/
def o5 : List Int := [6, 7, 38, 39, 70, 71, 102, 103, 198, 199, 230, 231]
theorem t5_1 : chkT o5 VI.top 1 = true := by kernel_rfl
theorem w5_1 : chkW o5 1 = true := by kernel_rfl
theorem t5_2 : chkT o5 VI.top 2 = true := by kernel_rfl
theorem w5_2 : chkW o5 2 = true := by kernel_rfl
theorem t5_3 : chkT o5 VI.top 3 = true := by kernel_rfl
theorem w5_3 : chkW o5 3 = true := by kernel_rfl
theorem t5_4 : chkT o5 VI.top 4 = true := by kernel_rfl
theorem w5_4 : chkW o5 4 = true := by kernel_rfl
/-! (4, 1, 4, False) -/
def o6 : List Int := [20, 21, 52, 53, 84, 85, 116, 117, 180, 181, 212, 213, 244, 245]
theorem t6_1 : chkT o6 VI.top 1 = true := by kernel_rfl
theorem w6_1 : chkW o6 1 = true := by kernel_rfl
theorem t6_2 : chkT o6 VI.top 2 = true := by kernel_rfl
theorem w6_2 : chkW o6 2 = true := by kernel_rfl
theorem t6_3 : chkT o6 VI.top 3 = true := by kernel_rfl
theorem w6_3 : chkW o6 3 = true := by kernel_rfl
/-! (4, 2, 4, False) -/
def o7 : List Int := [148, 149]
theorem t7_1 : chkT o7 VI.top 1 = true := by kernel_rfl
theorem w7_1 : chkW o7 1 = true := by kernel_rfl
theorem t7_2 : chkT o7 VI.top 2 = true := by kernel_rfl
theorem w7_2 : chkW o7 2 = true := by kernel_rfl
theorem t7_3 : chkT o7 VI.top 3 = true := by kernel_rfl
theorem w7_3 : chkW o7 3 = true := by kernel_rfl
/-! (4, 3, 6, False) -/
def o8 : List Int := [22, 23, 54, 55, 86, 87, 118, 119, 214, 215, 246, 247]
theorem t8_1 : chkT o8 VI.top 1 = true := by kernel_rfl
theorem w8_1 : chkW o8 1 = true := by kernel_rfl
theorem t8_2 : chkT o8 VI.top 2 = true := by kernel_rfl
theorem w8_2 : chkW o8 2 = true := by kernel_rfl
theorem t8_3 : chkT o8 VI.top 3 = true := by kernel_rfl
theorem w8_3 : chkW o8 3 = true := by kernel_rfl
theorem t8_4 : chkT o8 VI.top 4 = true := by kernel_rfl
theorem w8_4 : chkW o8 4 = true := by kernel_rfl
theorem t8_5 : chkT o8 VI.top 5 = true := by kernel_rfl
theorem w8_5 : chkW o8 5 = true := by kernel_rfl
/-! (5, 1, 4, False) -/
def o9 : List Int := [182, 183]
theorem t9_1 : chkT o9 VI.top 1 = true := by kernel_rfl
theorem w9_1 : chkW o9 1 = true := by kernel_rfl
theorem t9_2 : chkT o9 VI.top 2 = true := by kernel_rfl
theorem w9_2 : chkW o9 2 = true := by kernel_rfl
theorem t9_3 : chkT o9 VI.top 3 = true := by kernel_rfl
theorem w9_3 : chkW o9 3 = true := by kernel_rfl
/-! (5, 2, 4, False) -/
def o10 : List Int := [150, 151]
theorem t10_1 : chkT o10 VI.top 1 = true := by kernel_rfl
theorem w10_1 : chkW o10 1 = true := by kernel_rfl
theorem t10_2 : chkT o10 VI.top 2 = true := by kernel_rfl
theorem w10_2 : chkW o10 2 = true := by kernel_rfl
theorem t10_3 : chkT o10 VI.top 3 = true := by kernel_rfl
theorem w10_3 : chkW o10 3 = true := by kernel_rfl
/-! (6, 1, 4, False) -/
def o11 : List Int := [12, 13, 44, 45, 77, 109, 172, 173, 174, 175, 204, 205, 236, 237]
theorem t11_1 : chkT o11 VI.top 1 = true := by kernel_rfl
theorem w11_1 : chkW o11 1 = true := by kernel_rfl
theorem t11_2 : chkT o11 VI.top 2 = true := by kernel_rfl
theorem w11_2 : chkW o11 2 = true := by kernel_rfl
theorem t11_3 : chkT o11 VI.top 3 = true := by kernel_rfl
theorem w11_3 : chkW o11 3 = true := by kernel_rfl
/-! (6, 2, 4, False) -/
def o12 : List Int := [140, 141, 142, 143]
theorem t12_1 : chkT o12 VI.top 1 = true := by kernel_rfl
theorem w12_1 : chkW o12 1 = true := by kernel_rfl
theorem t12_2 : chkT o12 VI.top 2 = true := by kernel_rfl
theorem w12_2 : chkW o12 2 = true := by kernel_rfl
theorem t12_3 : chkT o12 VI.top 3 = true := by kernel_rfl
theorem w12_3 : chkW o12 3 = true := by kernel_rfl
/-! (6, 3, 6, False) -/
def o13 : List Int := [14, 15, 46, 47, 78, 79, 110, 111, 206, 207, 238, 239]
theorem t13_1 : chkT o13 VI.top 1 = true := by kernel_rfl
theorem w13_1 : chkW o13 1 = true := by kernel_rfl
theorem t13_2 : chkT o13 VI.top 2 = true := by kernel_rfl
theorem w13_2 : chkW o13 2 = true := by kernel_rfl
theorem t13_3 : chkT o13 VI.top 3 = true := by kernel_rfl
theorem w13_3 : chkW o13 3 = true := by kernel_rfl
theorem t13_4 : chkT o13 VI.top 4 = true := by kernel_rfl
theorem w13_4 : chkW o13 4 = true := by kernel_rfl
theorem t13_5 : chkT o13 VI.top 5 = true := by kernel_rfl
theorem w13_5 : chkW o13 5 = true := by kernel_rfl
/-! (7, 1, 4, True) -/
def o14 : List Int := [28, 29, 60, 61, 92, 93, 124, 125, 188, 189, 220, 221, 252, 253]
theorem t14_1 : chkT o14 VI.top 1 = true := by kernel_rfl
theorem w14_1 : chkW o14 1 = true := by kernel_rfl
theorem t14_2 : chkT o14 VI.top 2 = true := by kernel_rfl
theorem w14_2 : chkW o14 2 = true := by kernel_rfl
theorem t14_3 : chkT o14 VI.top 3 = true := by kernel_rfl
theorem w14_3 : chkW o14 3 = true := by kernel_rfl
theorem t14_4 : chkT o14 VI.top 4 = true := by kernel_rfl
theorem w14_4 : chkW o14 4 = true := by kernel_rfl
/-! (7, 2, 5, False) -/
def o15 : List Int := [156, 157]
theorem t15_1 : chkT o15 VI.top 1 = true := by kernel_rfl
theorem w15_1 : chkW o15 1 = true := by kernel_rfl
theorem t15_2 : chkT o15 VI.top 2 = true := by kernel_rfl
theorem w15_2 : chkW o15 2 = true := by kernel_rfl
theorem t15_3 : chkT o15 VI.top 3 = true := by kernel_rfl
theorem w15_3 : chkW o15 3 = true := by kernel_rfl
theorem t15_4 : chkT o15 VI.top 4 = true := by kernel_rfl
theorem w15_4 : chkW o15 4 = true := by kernel_rfl
/-! (7, 3, 7, False) -/
def o16 : List Int := [30, 31, 62, 63, 94, 95, 126, 127, 222, 223, 254, 255]
theorem t16_1 : chkT o16 VI.top 1 = true := by kernel_rfl
theorem w16_1 : chkW o16 1 = true := by kernel_rfl
theorem t16_2 : chkT o16 VI.top 2 = true := by kernel_rfl
theorem w16_2 : chkW o16 2 = true := by kernel_rfl
theorem t16_3 : chkT o16 VI.top 3 = true := by kernel_rfl
theorem w16_3 : chkW o16 3 = true := by kernel_rfl
theorem t16_4 : chkT o16 VI.top 4 = true := by kernel_rfl
theorem w16_4 : chkW o16 4 = true := by kernel_rfl
theorem t16_5 : chkT o16 VI.top 5 = true := by kernel_rfl
theorem w16_5 : chkW o16 5 = true := by kernel_rfl
theorem t16_6 : chkT o16 VI.top 6 = true := by kernel_rfl
theorem w16_6 : chkW o16 6 = true := by kernel_rfl
/-! (8, 1, 4, True) -/
def o17 : List Int := [25, 57, 89, 121, 185, 187, 190, 191, 217, 249]
theorem t17_1 : chkT o17 VI.top 1 = true := by kernel_rfl
theorem w17_1 : chkW o17 1 = true := by kernel_rfl
theorem t17_2 : chkT o17 VI.top 2 = true := by kernel_rfl
theorem w17_2 : chkW o17 2 = true := by kernel_rfl
theorem t17_3 : chkT o17 VI.top 3 = true := by kernel_rfl
theorem w17_3 : chkW o17 3 = true := by kernel_rfl
theorem t17_4 : chkT o17 VI.top 4 = true := by kernel_rfl
theorem w17_4 : chkW o17 4 = true := by kernel_rfl
/-! (8, 2, 5, False) -/
def o18 : List Int := [153, 155, 158, 159]
theorem t18_1 : chkT o18 VI.top 1 = true := by kernel_rfl
theorem w18_1 : chkW o18 1 = true := by kernel_rfl
theorem t18_2 : chkT o18 VI.top 2 = true := by kernel_rfl
theorem w18_2 : chkW o18 2 = true := by kernel_rfl
theorem t18_3 : chkT o18 VI.top 3 = true := by kernel_rfl
theorem w18_3 : chkW o18 3 = true := by kernel_rfl
theorem t18_4 : chkT o18 VI.top 4 = true := by kernel_rfl
theorem w18_4 : chkW o18 4 = true := by kernel_rfl
/-! (8, 3, 7, False) -/
def o19 : List Int := [27, 59, 91, 123, 219, 251]
theorem t19_1 : chkT o19 VI.top 1 = true := by kernel_rfl
theorem w19_1 : chkW o19 1 = true := by kernel_rfl
theorem t19_2 : chkT o19 VI.top 2 = true := by kernel_rfl
theorem w19_2 : chkW o19 2 = true := by kernel_rfl
theorem t19_3 : chkT o19 VI.top 3 = true := by kernel_rfl
theorem w19_3 : chkW o19 3 = true := by kernel_rfl
theorem t19_4 : chkT o19 VI.top 4 = true := by kernel_rfl
theorem w19_4 : chkW o19 4 = true := by kernel_rfl
theorem t19_5 : chkT o19 VI.top 5 = true := by kernel_rfl
theorem w19_5 : chkW o19 5 = true := by kernel_rfl
theorem t19_6 : chkT o19 VI.top 6 = true := by kernel_rfl
theorem w19_6 : chkW o19 6 = true := by kernel_rfl
/-! (9, 1, 6, False) -/
def o20 : List Int := [1, 33, 65, 97, 161, 163, 193, 225]
theorem t20_1 : chkT o20 VI.top 1 = true := by kernel_rfl
theorem w20_1 : chkW o20 1 = true := by kernel_rfl
theorem t20_2 : chkT o20 VI.top 2 = true := by kernel_rfl
theorem w20_2 : chkW o20 2 = true := by kernel_rfl
theorem t20_3 : chkT o20 VI.top 3 = true := by kernel_rfl
theorem w20_3 : chkW o20 3 = true := by kernel_rfl
theorem t20_4 : chkT o20 VI.top 4 = true := by kernel_rfl
theorem w20_4 : chkW o20 4 = true := by kernel_rfl
theorem t20_5 : chkT o20 VI.top 5 = true := by kernel_rfl
theorem w20_5 : chkW o20 5 = true := by kernel_rfl
/-! (9, 2, 6, False) -/
def o21 : List Int := [129, 131]
theorem t21_1 : chkT o21 VI.top 1 = true := by kernel_rfl
theorem w21_1 : chkW o21 1 = true := by kernel_rfl
theorem t21_2 : chkT o21 VI.top 2 = true := by kernel_rfl
theorem w21_2 : chkW o21 2 = true := by kernel_rfl
theorem t21_3 : chkT o21 VI.top 3 = true := by kernel_rfl
theorem w21_3 : chkW o21 3 = true := by kernel_rfl
theorem t21_4 : chkT o21 VI.top 4 = true := by kernel_rfl
theorem w21_4 : chkW o21 4 = true := by kernel_rfl
theorem t21_5 : chkT o21 VI.top 5 = true := by kernel_rfl
theorem w21_5 : chkW o21 5 = true := by kernel_rfl
/-! (9, 3, 8, False) -/
def o22 : List Int := [3, 35, 67, 99, 195, 227]
theorem t22_1 : chkT o22 VI.top 1 = true := by kernel_rfl
theorem w22_1 : chkW o22 1 = true := by kernel_rfl
theorem t22_2 : chkT o22 VI.top 2 = true := by kernel_rfl
theorem w22_2 : chkW o22 2 = true := by kernel_rfl
theorem t22_3 : chkT o22 VI.top 3 = true := by kernel_rfl
theorem w22_3 : chkW o22 3 = true := by kernel_rfl
theorem t22_4 : chkT o22 VI.top 4 = true := by kernel_rfl
theorem w22_4 : chkW o22 4 = true := by kernel_rfl
theorem t22_5 : chkT o22 VI.top 5 = true := by kernel_rfl
theorem w22_5 : chkW o22 5 = true := by kernel_rfl
theorem t22_6 : chkT o22 VI.top 6 = true := by kernel_rfl
theorem w22_6 : chkW o22 6 = true := by kernel_rfl
theorem t22_7 : chkT o22 VI.top 7 = true := by kernel_rfl
theorem w22_7 : chkW o22 7 = true := by kernel_rfl
/-! (10, 1, 5, True) -/
def o23 : List Int := [17, 49, 81, 113, 177, 179, 209, 241]
theorem t23_1 : chkT o23 VI.top 1 = true := by kernel_rfl
theorem w23_1 : chkW o23 1 = true := by kernel_rfl
theorem t23_2 : chkT o23 VI.top 2 = true := by kernel_rfl
theorem w23_2 : chkW o23 2 = true := by kernel_rfl
theorem t23_3 : chkT o23 VI.top 3 = true := by kernel_rfl
theorem w23_3 : chkW o23 3 = true := by kernel_rfl
theorem t23_4 : chkT o23 VI.top 4 = true := by kernel_rfl
theorem w23_4 : chkW o23 4 = true := by kernel_rfl
theorem t23_5 : chkT o23 VI.top 5 = true := by kernel_rfl
theorem w23_5 : chkW o23 5 = true := by kernel_rfl
/-! (10, 2, 6, False) -/
def o24 : List Int := [145, 147]
theorem t24_1 : chkT o24 VI.top 1 = true := by kernel_rfl
theorem w24_1 : chkW o24 1 = true := by kernel_rfl
theorem t24_2 : chkT o24 VI.top 2 = true := by kernel_rfl
theorem w24_2 : chkW o24 2 = true := by kernel_rfl
theorem t24_3 : chkT o24 VI.top 3 = true := by kernel_rfl
theorem w24_3 : chkW o24 3 = true := by kernel_rfl
theorem t24_4 : chkT o24 VI.top 4 = true := by kernel_rfl
theorem w24_4 : chkW o24 4 = true := by kernel_rfl
theorem t24_5 : chkT o24 VI.top 5 = true := by kernel_rfl
theorem w24_5 : chkW o24 5 = true := by kernel_rfl
/-! (10, 3, 8, False) -/
def o25 : List Int := [19, 51, 83, 115, 211, 243]
theorem t25_1 : chkT o25 VI.top 1 = true := by kernel_rfl
theorem w25_1 : chkW o25 1 = true := by kernel_rfl
theorem t25_2 : chkT o25 VI.top 2 = true := by kernel_rfl
theorem w25_2 : chkW o25 2 = true := by kernel_rfl
theorem t25_3 : chkT o25 VI.top 3 = true := by kernel_rfl
theorem w25_3 : chkW o25 3 = true := by kernel_rfl
theorem t25_4 : chkT o25 VI.top 4 = true := by kernel_rfl
theorem w25_4 : chkW o25 4 = true := by kernel_rfl
theorem t25_5 : chkT o25 VI.top 5 = true := by kernel_rfl
theorem w25_5 : chkW o25 5 = true := by kernel_rfl
theorem t25_6 : chkT o25 VI.top 6 = true := by kernel_rfl
theorem w25_6 : chkW o25 6 = true := by kernel_rfl
theorem t25_7 : chkT o25 VI.top 7 = true := by kernel_rfl
theorem w25_7 : chkW o25 7 = true := by kernel_rfl
/-! (11, 0, 2, True) -/
def o26 : List Int := [16, 48, 80, 112, 144, 176, 208, 240]
theorem t26_1 : chkT o26 VI.top 1 = true := by kernel_rfl
theorem w26_1 : chkW o26 1 = true := by kernel_rfl
theorem t26_2 : chkT o26 VI.top 2 = true := by kernel_rfl
theorem w26_2 : chkW o26 2 = true := by kernel_rfl
theorem t26_3 : chkT o26 VI.top 3 = true := by kernel_rfl
theorem w26_3 : chkW o26 3 = true := by kernel_rfl
/-! (12, 0, 5, False) -/
def o27 : List Int := [108]
theorem t27_1 : chkT o27 VI.top 1 = true := by kernel_rfl
theorem w27_1 : chkW o27 1 = true := by kernel_rfl
theorem t27_2 : chkT o27 VI.top 2 = true := by kernel_rfl
theorem w27_2 : chkW o27 2 = true := by kernel_rfl
theorem t27_3 : chkT o27 VI.top 3 = true := by kernel_rfl
theorem w27_3 : chkW o27 3 = true := by kernel_rfl
theorem t27_4 : chkT o27 VI.top 4 = true := by kernel_rfl
theorem w27_4 : chkW o27 4 = true := by kernel_rfl
/-! (13, 0, 3, False) -/
def o28 : List Int := [76]
theorem t28_1 : chkT o28 VI.top 1 = true := by kernel_rfl
theorem w28_1 : chkW o28 1 = true := by kernel_rfl
theorem t28_2 : chkT o28 VI.top 2 = true := by kernel_rfl
theorem w28_2 : chkW o28 2 = true := by kernel_rfl
/-! (14, 0, 6, False) -/
def o29 : List Int := [32]
theorem t29_1 : chkT o29 VI.top 1 = true := by kernel_rfl
theorem w29_1 : chkW o29 1 = true := by kernel_rfl
theorem t29_2 : chkT o29 VI.top 2 = true := by kernel_rfl
theorem w29_2 : chkW o29 2 = true := by kernel_rfl
theorem t29_3 : chkT o29 VI.top 3 = true := by kernel_rfl
theorem w29_3 : chkW o29 3 = true := by kernel_rfl
theorem t29_4 : chkT o29 VI.top 4 = true := by kernel_rfl
theorem w29_4 : chkW o29 4 = true := by kernel_rfl
theorem t29_5 : chkT o29 VI.top 5 = true := by kernel_rfl
theorem w29_5 : chkW o29 5 = true := by kernel_rfl
/-! (15, 0, 6, False) -/
def o30 : List Int := [96]
theorem t30_1 : chkT o30 VI.top 1 = true := by kernel_rfl
theorem w30_1 : chkW o30 1 = true := by kernel_rfl
theorem t30_2 : chkT o30 VI.top 2 = true := by kernel_rfl
theorem w30_2 : chkW o30 2 = true := by kernel_rfl
theorem t30_3 : chkT o30 VI.top 3 = true := by kernel_rfl
theorem w30_3 : chkW o30 3 = true := by kernel_rfl
theorem t30_4 : chkT o30 VI.top 4 = true := by kernel_rfl
theorem w30_4 : chkW o30 4 = true := by kernel_rfl
theorem t30_5 : chkT o30 VI.top 5 = true := by kernel_rfl
theorem w30_5 : chkW o30 5 = true := by kernel_rfl
/-! (16, 0, 6, False) -/
def o31 : List Int := [64]
theorem t31_1 : chkT o31 VI.top 1 = true := by kernel_rfl
theorem w31_1 : chkW o31 1 = true := by kernel_rfl
theorem t31_2 : chkT o31 VI.top 2 = true := by kernel_rfl
theorem w31_2 : chkW o31 2 = true := by kernel_rfl
theorem t31_3 : chkT o31 VI.top 3 = true := by kernel_rfl
theorem w31_3 : chkW o31 3 = true := by kernel_rfl
theorem t31_4 : chkT o31 VI.top 4 = true := by kernel_rfl
theorem w31_4 : chkW o31 4 = true := by kernel_rfl
theorem t31_5 : chkT o31 VI.top 5 = true := by kernel_rfl
theorem w31_5 : chkW o31 5 = true := by kernel_rfl
/-! (17, 0, 7, False) -/
def o32 : List Int := [0]
theorem t32_1 : chkT o32 VI.top 1 = true := by kernel_rfl
theorem w32_1 : chkW o32 1 = true := by kernel_rfl
theorem t32_2 : chkT o32 VI.top 2 = true := by kernel_rfl
theorem w32_2 : chkW o32 2 = true := by kernel_rfl
theorem t32_3 : chkT o32 VI.top 3 = true := by kernel_rfl
theorem w32_3 : chkW o32 3 = true := by kernel_rfl
theorem t32_4 : chkT o32 VI.top 4 = true := by kernel_rfl
theorem w32_4 : chkW o32 4 = true := by kernel_rfl
theorem t32_5 : chkT o32 VI.top 5 = true := by kernel_rfl
theorem w32_5 : chkW o32 5 = true := by kernel_rfl
theorem t32_6 : chkT o32 VI.top 6 = true := by kernel_rfl
theorem w32_6 : chkW o32 6 = true := by kernel_rfl
/-! (18, 0, 3, False) -/
def o33 : List Int := [8, 72]
theorem t33_1 : chkT o33 VI.top 1 = true := by kernel_rfl
theorem w33_1 : chkW o33 1 = true := by kernel_rfl
theorem t33_2 : chkT o33 VI.top 2 = true := by kernel_rfl
theorem w33_2 : chkW o33 2 = true := by kernel_rfl
/-! (19, 0, 4, False) -/
def o34 : List Int := [40, 104]
theorem t34_1 : chkT o34 VI.top 1 = true := by kernel_rfl
theorem w34_1 : chkW o34 1 = true := by kernel_rfl
theorem t34_2 : chkT o34 VI.top 2 = true := by kernel_rfl
theorem w34_2 : chkW o34 2 = true := by kernel_rfl
theorem t34_3 : chkT o34 VI.top 3 = true := by kernel_rfl
theorem w34_3 : chkW o34 3 = true := by kernel_rfl
/-! (20, 0, 0, False) -/
def o35 : List Int := [2, 18, 34, 50, 66, 82, 98, 114, 146, 178, 210, 242]
theorem t35_1 : chkT o35 VI.top 1 = true := by kernel_rfl
theorem w35_1 : chkW o35 1 = true := by kernel_rfl
end Go.Proofs.YtalnndmnnffnmaaGreat.Cr
/-! ## CrY -/
set_option linter.unusedVariables false
set_option linter.unusedSimpArgs false
namespace Go.Proofs.YtalnndmnnffnmaaGreat.Cr
open Go Go.Proofs Go.Proofs.YtalnndmnnffnmaaGreat.Sx

noncomputable def chkO : Bool := ((V13 [VI.top, VI.top, VI.top, VI.top, VI.top, VI.top, VI.top, VI.msk 255, VI.top, VI.top, VI.top, VI.top, VI.top, VI.msk 255] (List.replicate 16 none)).1.getD 7 VI.top).within 255
theorem op_t : chkO = true := by kernel_rfl
theorem forall_cons {α : Type} {p : α → Prop} {a : α} {l : List α} (h : p a) (h' : ∀ c, c ∈ l → p c) : ∀ c, c ∈ a :: l → p c := fun c hc => by
  rcases List.mem_cons.1 hc with rfl | hc
  · exact h
  · exact h' c hc
theorem tc0 : ∀ t : Int, 1 ≤ t → t < 2 → chkT o0 VI.top t = true ∧ chkW o0 t = true := by
  intro t h1 h2
  have : t = 1 := by omega
  subst this
  exact ⟨t0_1, w0_1⟩
theorem tc1 : ∀ t : Int, 1 ≤ t → t < 2 → chkT o1 VI.top t = true ∧ chkW o1 t = true := by
  intro t h1 h2
  have : t = 1 := by omega
  subst this
  exact ⟨t1_1, w1_1⟩
theorem tc2 : ∀ t : Int, 1 ≤ t → t < 2 → chkT o2 VI.top t = true ∧ chkW o2 t = true := by
  intro t h1 h2
  have : t = 1 := by omega
  subst this
  exact ⟨t2_1, w2_1⟩
theorem tc3 : ∀ t : Int, 1 ≤ t → t < 3 → chkT o3 VI.top t = true ∧ chkW o3 t = true := by
  intro t h1 h2
  have : t = 1 ∨ t = 2 := by omega
  rcases this with rfl | rfl
  · exact ⟨t3_1, w3_1⟩
  · exact ⟨t3_2, w3_2⟩
theorem tc4 : ∀ t : Int, 1 ≤ t → t < 3 → chkT o4 VI.top t = true ∧ chkW o4 t = true := by
  intro t h1 h2
  have : t = 1 ∨ t = 2 := by omega
  rcases this with rfl | rfl
  · exact ⟨t4_1, w4_1⟩
  · exact ⟨t4_2, w4_2⟩
theorem tc5 : ∀ t : Int, 1 ≤ t → t < 5 → chkT o5 VI.top t = true ∧ chkW o5 t = true := by
  intro t h1 h2
  have : t = 1 ∨ t = 2 ∨ t = 3 ∨ t = 4 := by omega
  rcases this with rfl | rfl | rfl | rfl
  · exact ⟨t5_1, w5_1⟩
  · exact ⟨t5_2, w5_2⟩
  · exact ⟨t5_3, w5_3⟩
  · exact ⟨t5_4, w5_4⟩
theorem tc6 : ∀ t : Int, 1 ≤ t → t < 4 → chkT o6 VI.top t = true ∧ chkW o6 t = true := by
  intro t h1 h2
  have : t = 1 ∨ t = 2 ∨ t = 3 := by omega
  rcases this with rfl | rfl | rfl
  · exact ⟨t6_1, w6_1⟩
  · exact ⟨t6_2, w6_2⟩
  · exact ⟨t6_3, w6_3⟩
theorem tc7 : ∀ t : Int, 1 ≤ t → t < 4 → chkT o7 VI.top t = true ∧ chkW o7 t = true := by
  intro t h1 h2
  have : t = 1 ∨ t = 2 ∨ t = 3 := by omega
  rcases this with rfl | rfl | rfl
  · exact ⟨t7_1, w7_1⟩
  · exact ⟨t7_2, w7_2⟩
  · exact ⟨t7_3, w7_3⟩
theorem tc8 : ∀ t : Int, 1 ≤ t → t < 6 → chkT o8 VI.top t = true ∧ chkW o8 t = true := by
  intro t h1 h2
  have : t = 1 ∨ t = 2 ∨ t = 3 ∨ t = 4 ∨ t = 5 := by omega
  rcases this with rfl | rfl | rfl | rfl | rfl
  · exact ⟨t8_1, w8_1⟩
  · exact ⟨t8_2, w8_2⟩
  · exact ⟨t8_3, w8_3⟩
  · exact ⟨t8_4, w8_4⟩
  · exact ⟨t8_5, w8_5⟩
theorem tc9 : ∀ t : Int, 1 ≤ t → t < 4 → chkT o9 VI.top t = true ∧ chkW o9 t = true := by
  intro t h1 h2
  have : t = 1 ∨ t = 2 ∨ t = 3 := by omega
  rcases this with rfl | rfl | rfl
  · exact ⟨t9_1, w9_1⟩
  · exact ⟨t9_2, w9_2⟩
  · exact ⟨t9_3, w9_3⟩
theorem tc10 : ∀ t : Int, 1 ≤ t → t < 4 → chkT o10 VI.top t = true ∧ chkW o10 t = true := by
  intro t h1 h2
  have : t = 1 ∨ t = 2 ∨ t = 3 := by omega
  rcases this with rfl | rfl | rfl
  · exact ⟨t10_1, w10_1⟩
  · exact ⟨t10_2, w10_2⟩
  · exact ⟨t10_3, w10_3⟩
theorem tc11 : ∀ t : Int, 1 ≤ t → t < 4 → chkT o11 VI.top t = true ∧ chkW o11 t = true := by
  intro t h1 h2
  have : t = 1 ∨ t = 2 ∨ t = 3 := by omega
  rcases this with rfl | rfl | rfl
  · exact ⟨t11_1, w11_1⟩
  · exact ⟨t11_2, w11_2⟩
  · exact ⟨t11_3, w11_3⟩
theorem tc12 : ∀ t : Int, 1 ≤ t → t < 4 → chkT o12 VI.top t = true ∧ chkW o12 t = true := by
  intro t h1 h2
  have : t = 1 ∨ t = 2 ∨ t = 3 := by omega
  rcases this with rfl | rfl | rfl
  · exact ⟨t12_1, w12_1⟩
  · exact ⟨t12_2, w12_2⟩
  · exact ⟨t12_3, w12_3⟩
theorem tc13 : ∀ t : Int, 1 ≤ t → t < 6 → chkT o13 VI.top t = true ∧ chkW o13 t = true := by
  intro t h1 h2
  have : t = 1 ∨ t = 2 ∨ t = 3 ∨ t = 4 ∨ t = 5 := by omega
  rcases this with rfl | rfl | rfl | rfl | rfl
  · exact ⟨t13_1, w13_1⟩
  · exact ⟨t13_2, w13_2⟩
  · exact ⟨t13_3, w13_3⟩
  · exact ⟨t13_4, w13_4⟩
  · exact ⟨t13_5, w13_5⟩
theorem tc14 : ∀ t : Int, 1 ≤ t → t < 5 → chkT o14 VI.top t = true ∧ chkW o14 t = true := by
  intro t h1 h2
  have : t = 1 ∨ t = 2 ∨ t = 3 ∨ t = 4 := by omega
  rcases this with rfl | rfl | rfl | rfl
  · exact ⟨t14_1, w14_1⟩
  · exact ⟨t14_2, w14_2⟩
  · exact ⟨t14_3, w14_3⟩
  · exact ⟨t14_4, w14_4⟩
theorem tc15 : ∀ t : Int, 1 ≤ t → t < 5 → chkT o15 VI.top t = true ∧ chkW o15 t = true := by
  intro t h1 h2
  have : t = 1 ∨ t = 2 ∨ t = 3 ∨ t = 4 := by omega
  rcases this with rfl | rfl | rfl | rfl
  · exact ⟨t15_1, w15_1⟩
  · exact ⟨t15_2, w15_2⟩
  · exact ⟨t15_3, w15_3⟩
  · exact ⟨t15_4, w15_4⟩
theorem tc16 : ∀ t : Int, 1 ≤ t → t < 7 → chkT o16 VI.top t = true ∧ chkW o16 t = true := by
  intro t h1 h2
  have : t = 1 ∨ t = 2 ∨ t = 3 ∨ t = 4 ∨ t = 5 ∨ t = 6 := by omega
  rcases this with rfl | rfl | rfl | rfl | rfl | rfl
  · exact ⟨t16_1, w16_1⟩
  · exact ⟨t16_2, w16_2⟩
  · exact ⟨t16_3, w16_3⟩
  · exact ⟨t16_4, w16_4⟩
  · exact ⟨t16_5, w16_5⟩
  · exact ⟨t16_6, w16_6⟩
theorem tc17 : ∀ t : Int, 1 ≤ t → t < 5 → chkT o17 VI.top t = true ∧ chkW o17 t = true := by
  intro t h1 h2
  have : t = 1 ∨ t = 2 ∨ t = 3 ∨ t = 4 := by omega
  rcases this with rfl | rfl | rfl | rfl
  · exact ⟨t17_1, w17_1⟩
  · exact ⟨t17_2, w17_2⟩
  · exact ⟨t17_3, w17_3⟩
  · exact ⟨t17_4, w17_4⟩
theorem tc18 : ∀ t : Int, 1 ≤ t → t < 5 → chkT o18 VI.top t = true ∧ chkW o18 t = true := by
  intro t h1 h2
  have : t = 1 ∨ t = 2 ∨ t = 3 ∨ t = 4 := by omega
  rcases this with rfl | rfl | rfl | rfl
  · exact ⟨t18_1, w18_1⟩
  · exact ⟨t18_2, w18_2⟩
  · exact ⟨t18_3, w18_3⟩
  · exact ⟨t18_4, w18_4⟩
theorem tc19 : ∀ t : Int, 1 ≤ t → t < 7 → chkT o19 VI.top t = true ∧ chkW o19 t = true := by
  intro t h1 h2
  have : t = 1 ∨ t = 2 ∨ t = 3 ∨ t = 4 ∨ t = 5 ∨ t = 6 := by omega
  rcases this with rfl | rfl | rfl | rfl | rfl | rfl
  · exact ⟨t19_1, w19_1⟩
  · exact ⟨t19_2, w19_2⟩
  · exact ⟨t19_3, w19_3⟩
  · exact ⟨t19_4, w19_4⟩
  · exact ⟨t19_5, w19_5⟩
  · exact ⟨t19_6, w19_6⟩
theorem tc20 : ∀ t : Int, 1 ≤ t → t < 6 → chkT o20 VI.top t = true ∧ chkW o20 t = true := by
  intro t h1 h2
  have : t = 1 ∨ t = 2 ∨ t = 3 ∨ t = 4 ∨ t = 5 := by omega
  rcases this with rfl | rfl | rfl | rfl | rfl
  · exact ⟨t20_1, w20_1⟩
  · exact ⟨t20_2, w20_2⟩
  · exact ⟨t20_3, w20_3⟩
  · exact ⟨t20_4, w20_4⟩
  · exact ⟨t20_5, w20_5⟩
theorem tc21 : ∀ t : Int, 1 ≤ t → t < 6 → chkT o21 VI.top t = true ∧ chkW o21 t = true := by
  intro t h1 h2
  have : t = 1 ∨ t = 2 ∨ t = 3 ∨ t = 4 ∨ t = 5 := by omega
  rcases this with rfl | rfl | rfl | rfl | rfl
  · exact ⟨t21_1, w21_1⟩
  · exact ⟨t21_2, w21_2⟩
  · exact ⟨t21_3, w21_3⟩
  · exact ⟨t21_4, w21_4⟩
  · exact ⟨t21_5, w21_5⟩
theorem tc22 : ∀ t : Int, 1 ≤ t → t < 8 → chkT o22 VI.top t = true ∧ chkW o22 t = true := by
  intro t h1 h2
  have : t = 1 ∨ t = 2 ∨ t = 3 ∨ t = 4 ∨ t = 5 ∨ t = 6 ∨ t = 7 := by omega
  rcases this with rfl | rfl | rfl | rfl | rfl | rfl | rfl
  · exact ⟨t22_1, w22_1⟩
  · exact ⟨t22_2, w22_2⟩
  · exact ⟨t22_3, w22_3⟩
  · exact ⟨t22_4, w22_4⟩
  · exact ⟨t22_5, w22_5⟩
  · exact ⟨t22_6, w22_6⟩
  · exact ⟨t22_7, w22_7⟩
theorem tc23 : ∀ t : Int, 1 ≤ t → t < 6 → chkT o23 VI.top t = true ∧ chkW o23 t = true := by
  intro t h1 h2
  have : t = 1 ∨ t = 2 ∨ t = 3 ∨ t = 4 ∨ t = 5 := by omega
  rcases this with rfl | rfl | rfl | rfl | rfl
  · exact ⟨t23_1, w23_1⟩
  · exact ⟨t23_2, w23_2⟩
  · exact ⟨t23_3, w23_3⟩
  · exact ⟨t23_4, w23_4⟩
  · exact ⟨t23_5, w23_5⟩
theorem tc24 : ∀ t : Int, 1 ≤ t → t < 6 → chkT o24 VI.top t = true ∧ chkW o24 t = true := by
  intro t h1 h2
  have : t = 1 ∨ t = 2 ∨ t = 3 ∨ t = 4 ∨ t = 5 := by omega
  rcases this with rfl | rfl | rfl | rfl | rfl
  · exact ⟨t24_1, w24_1⟩
  · exact ⟨t24_2, w24_2⟩
  · exact ⟨t24_3, w24_3⟩
  · exact ⟨t24_4, w24_4⟩
  · exact ⟨t24_5, w24_5⟩
theorem tc25 : ∀ t : Int, 1 ≤ t → t < 8 → chkT o25 VI.top t = true ∧ chkW o25 t = true := by
  intro t h1 h2
  have : t = 1 ∨ t = 2 ∨ t = 3 ∨ t = 4 ∨ t = 5 ∨ t = 6 ∨ t = 7 := by omega
  rcases this with rfl | rfl | rfl | rfl | rfl | rfl | rfl
  · exact ⟨t25_1, w25_1⟩
  · exact ⟨t25_2, w25_2⟩
  · exact ⟨t25_3, w25_3⟩
  · exact ⟨t25_4, w25_4⟩
  · exact ⟨t25_5, w25_5⟩
  · exact ⟨t25_6, w25_6⟩
  · exact ⟨t25_7, w25_7⟩
theorem tc26 : ∀ t : Int, 1 ≤ t → t < 4 → chkT o26 VI.top t = true ∧ chkW o26 t = true := by
  intro t h1 h2
  have : t = 1 ∨ t = 2 ∨ t = 3 := by omega
  rcases this with rfl | rfl | rfl
  · exact ⟨t26_1, w26_1⟩
  · exact ⟨t26_2, w26_2⟩
  · exact ⟨t26_3, w26_3⟩
theorem tc27 : ∀ t : Int, 1 ≤ t → t < 5 → chkT o27 VI.top t = true ∧ chkW o27 t = true := by
  intro t h1 h2
  have : t = 1 ∨ t = 2 ∨ t = 3 ∨ t = 4 := by omega
  rcases this with rfl | rfl | rfl | rfl
  · exact ⟨t27_1, w27_1⟩
  · exact ⟨t27_2, w27_2⟩
  · exact ⟨t27_3, w27_3⟩
  · exact ⟨t27_4, w27_4⟩
theorem tc28 : ∀ t : Int, 1 ≤ t → t < 3 → chkT o28 VI.top t = true ∧ chkW o28 t = true := by
  intro t h1 h2
  have : t = 1 ∨ t = 2 := by omega
  rcases this with rfl | rfl
  · exact ⟨t28_1, w28_1⟩
  · exact ⟨t28_2, w28_2⟩
theorem tc29 : ∀ t : Int, 1 ≤ t → t < 6 → chkT o29 VI.top t = true ∧ chkW o29 t = true := by
  intro t h1 h2
  have : t = 1 ∨ t = 2 ∨ t = 3 ∨ t = 4 ∨ t = 5 := by omega
  rcases this with rfl | rfl | rfl | rfl | rfl
  · exact ⟨t29_1, w29_1⟩
  · exact ⟨t29_2, w29_2⟩
  · exact ⟨t29_3, w29_3⟩
  · exact ⟨t29_4, w29_4⟩
  · exact ⟨t29_5, w29_5⟩
theorem tc30 : ∀ t : Int, 1 ≤ t → t < 6 → chkT o30 VI.top t = true ∧ chkW o30 t = true := by
  intro t h1 h2
  have : t = 1 ∨ t = 2 ∨ t = 3 ∨ t = 4 ∨ t = 5 := by omega
  rcases this with rfl | rfl | rfl | rfl | rfl
  · exact ⟨t30_1, w30_1⟩
  · exact ⟨t30_2, w30_2⟩
  · exact ⟨t30_3, w30_3⟩
  · exact ⟨t30_4, w30_4⟩
  · exact ⟨t30_5, w30_5⟩
theorem tc31 : ∀ t : Int, 1 ≤ t → t < 6 → chkT o31 VI.top t = true ∧ chkW o31 t = true := by
  intro t h1 h2
  have : t = 1 ∨ t = 2 ∨ t = 3 ∨ t = 4 ∨ t = 5 := by omega
  rcases this with rfl | rfl | rfl | rfl | rfl
  · exact ⟨t31_1, w31_1⟩
  · exact ⟨t31_2, w31_2⟩
  · exact ⟨t31_3, w31_3⟩
  · exact ⟨t31_4, w31_4⟩
  · exact ⟨t31_5, w31_5⟩
theorem tc32 : ∀ t : Int, 1 ≤ t → t < 7 → chkT o32 VI.top t = true ∧ chkW o32 t = true := by
  intro t h1 h2
  have : t = 1 ∨ t = 2 ∨ t = 3 ∨ t = 4 ∨ t = 5 ∨ t = 6 := by omega
  rcases this with rfl | rfl | rfl | rfl | rfl | rfl
  · exact ⟨t32_1, w32_1⟩
  · exact ⟨t32_2, w32_2⟩
  · exact ⟨t32_3, w32_3⟩
  · exact ⟨t32_4, w32_4⟩
  · exact ⟨t32_5, w32_5⟩
  · exact ⟨t32_6, w32_6⟩
theorem tc33 : ∀ t : Int, 1 ≤ t → t < 3 → chkT o33 VI.top t = true ∧ chkW o33 t = true := by
  intro t h1 h2
  have : t = 1 ∨ t = 2 := by omega
  rcases this with rfl | rfl
  · exact ⟨t33_1, w33_1⟩
  · exact ⟨t33_2, w33_2⟩
theorem tc34 : ∀ t : Int, 1 ≤ t → t < 4 → chkT o34 VI.top t = true ∧ chkW o34 t = true := by
  intro t h1 h2
  have : t = 1 ∨ t = 2 ∨ t = 3 := by omega
  rcases this with rfl | rfl | rfl
  · exact ⟨t34_1, w34_1⟩
  · exact ⟨t34_2, w34_2⟩
  · exact ⟨t34_3, w34_3⟩
theorem tc35 : ∀ t : Int, 1 ≤ t → t < 2 → chkT o35 VI.top t = true ∧ chkW o35 t = true := by
  intro t h1 h2
  have : t = 1 := by omega
  subst this
  exact ⟨t35_1, w35_1⟩
def classes : List (List Int × Int) := [(o0, 2), (o1, 2), (o2, 2), (o3, 3), (o4, 3), (o5, 5), (o6, 4), (o7, 4), (o8, 6), (o9, 4), (o10, 4), (o11, 4), (o12, 4), (o13, 6), (o14, 5), (o15, 5), (o16, 7), (o17, 5), (o18, 5), (o19, 7), (o20, 6), (o21, 6), (o22, 8), (o23, 6), (o24, 6), (o25, 8), (o26, 4), (o27, 5), (o28, 3), (o29, 6), (o30, 6), (o31, 6), (o32, 7), (o33, 3), (o34, 4), (o35, 2)]
theorem tcs : ∀ c, c ∈ classes → ∀ t : Int, 1 ≤ t → t < c.2 → chkT c.1 VI.top t = true ∧ chkW c.1 t = true := (forall_cons tc0 (forall_cons tc1 (forall_cons tc2 (forall_cons tc3 (forall_cons tc4 (forall_cons tc5 (forall_cons tc6 (forall_cons tc7 (forall_cons tc8 (forall_cons tc9 (forall_cons tc10 (forall_cons tc11 (forall_cons tc12 (forall_cons tc13 (forall_cons tc14 (forall_cons tc15 (forall_cons tc16 (forall_cons tc17 (forall_cons tc18 (forall_cons tc19 (forall_cons tc20 (forall_cons tc21 (forall_cons tc22 (forall_cons tc23 (forall_cons tc24 (forall_cons tc25 (forall_cons tc26 (forall_cons tc27 (forall_cons tc28 (forall_cons tc29 (forall_cons tc30 (forall_cons tc31 (forall_cons tc32 (forall_cons tc33 (forall_cons tc34 (forall_cons tc35 (fun _ h => by cases h)))))))))))))))))))))))))))))))))))))
theorem cover {n : Nat} (h : n < 256) : (classes.any fun c => c.1.any (fun x => decide (x = (n : Int))) && decide (c.2 = most n)) = true :=
  allR_spec (f := fun n => classes.any fun c => c.1.any (fun x => decide (x = Int.ofNat n)) && decide (c.2 = most n)) (k := 8) (lo := 0) (by kernel_rfl) n (Nat.zero_le _) (by omega)
theorem mem_all {x : Int} (h0 : 0 ≤ x) (h1 : x ≤ 255) : x ∈ all256 := by
  unfold all256
  exact List.mem_map.2 ⟨x.toNat, List.mem_range.2 (by omega), by simp; omega⟩
/-- Which check tells of a processor that may be. -/
theorem look {op t v : Int} (ho : 0 ≤ op) (ho' : op ≤ 255) (hv : 0 ≤ v) (hv' : v ≤ 255) (ht : tmay op t = true) : ∃ O vl, op ∈ O ∧ vl.ok v ∧ chkT O vl t = true ∧ chkW O t = true := by
  unfold tmay at ht
  simp only [Bool.and_eq_true, Bool.or_eq_true, decide_eq_true_eq] at ht
  by_cases h : t ≤ 0
  · have : t = 0 := by omega
    subst this
    exact ⟨all256, VI.of all256, mem_all ho ho', VI.of_ok (mem_all hv hv'), t_0, w_0⟩
  · have hc := cover (n := op.toNat) (by omega)
    rw [List.any_eq_true] at hc
    obtain ⟨c, hc, h2⟩ := hc
    simp only [Bool.and_eq_true, List.any_eq_true, decide_eq_true_eq] at h2
    obtain ⟨⟨x, hx, hx'⟩, h3⟩ := h2
    have e : x = op := by rw [hx']; omega
    obtain ⟨h4, h5⟩ := tcs c hc t (by omega) (by rw [h3]; omega)
    exact ⟨c.1, VI.top, e ▸ hx, VI.top_ok, h4, h5⟩
theorem Vw.takeL {α β : Type} {ok : β → α → Prop} {tp : β} {d : α} {ls : List β} {l : List α} (htp : ∀ x, ok tp x) (n : Nat) (h : Vw ok tp d ls l) : Vw ok tp d (ls.take n) l := fun j => by
  rw [getD_take]
  split
  · exact h j
  · exact htp _
theorem outOk_ok {o : List VI} {is : List Int} (h : outOk o = true) (hi : VwI o is) : is.getD 13 0 = 0 ∧ may (is.getD 4 0) (is.getD 5 0) (is.getD 7 0) (is.getD 8 0) (is.getD 11 0) (is.getD 12 0) = true := by
  unfold outOk at h
  simp only [Bool.and_eq_true] at h
  refine ⟨?_, (okC_ok h.1 (Vw.takeL (fun _ => VI.top_ok) 13 hi)).2⟩
  have h2 := h.2
  split at h2
  · rename_i e
    have := (hi 13).1 _ e
    simpa using this
  · cases h2
theorem reps {n : Nat} {bs : List Bool} : VwB (List.replicate n none) bs := fun j => by
  have : (List.replicate n (none : VB)).getD j none = none := by
    by_cases h : j < n
    · simp [List.getD_eq_getElem?_getD, h]
    · rw [getD_ge (by simp; omega)]
  rw [this]; exact VB.none_ok
theorem repsI {n : Nat} {is : List Int} : VwI (List.replicate n VI.top) is := fun j => by
  have : (List.replicate n VI.top).getD j VI.top = VI.top := by
    by_cases h : j < n
    · simp [List.getD_eq_getElem?_getD, h]
    · rw [getD_ge (by simp; omega)]
  rw [this]; exact VI.top_ok
theorem and255 {x : Int} (h : 0 ≤ x) (h' : x ≤ 255) : arI .and .u8 x 255 = x := by
  rw [and8_nat]
  have h1 : (BitVec.ofInt 8 x).toNat = x.toNat := by
    rw [BitVec.toNat_ofInt]; omega
  have h2 : BitVec.ofInt 8 255 = BitVec.allOnes 8 := by decide
  rw [h2, BitVec.and_allOnes, h1]
  omega
theorem of_and255 {x : Int} (h : arI .and .u8 x 255 = x) : 0 ≤ x ∧ x ≤ 255 := by
  rw [and8_nat] at h
  have := (BitVec.ofInt 8 x &&& BitVec.ofInt 8 255).isLt
  omega
theorem ctl_vw (b0 b1 b2 b3 b4 b5 b6 b7 b8 b9 : Bool) (l : List Bool) {n : Nat} : VwB (ctlB n) (b0 :: b1 :: b2 :: b3 :: b4 :: b5 :: b6 :: b7 :: b8 :: b9 :: true :: l) := by
  unfold ctlB
  show VwB ([none, none, none, none, none, none, none, none, none, none, some true] ++ List.replicate n none) _
  simp only [List.cons_append, List.nil_append]
  refine Vw.cons VB.none_ok (Vw.cons VB.none_ok (Vw.cons VB.none_ok (Vw.cons VB.none_ok (Vw.cons VB.none_ok (Vw.cons VB.none_ok (Vw.cons VB.none_ok (Vw.cons VB.none_ok (Vw.cons VB.none_ok (Vw.cons VB.none_ok (Vw.cons VB.some_ok reps))))))))))
theorem st_ok {O : List Int} {i0 i1 i2 i3 i4 i5 i6 i7 i8 i9 i10 i11 i12 : Int} {l : List Int} {ls : List VI} (ho : i7 ∈ O) (hm : may i4 i5 i7 i8 i11 i12 = true) (hl : VwI ls l) : VwI (stI O [i8] ++ ls) ([i0, i1, i2, i3, i4, i5, i6, i7, i8, i9, i10, i11, i12] ++ l) := by
  unfold may at hm
  simp only [Bool.and_eq_true, decide_eq_true_eq] at hm
  obtain ⟨⟨⟨⟨_, h11⟩, h12⟩, h4⟩, h5⟩ := hm
  unfold stI
  simp only [List.cons_append, List.nil_append]
  refine Vw.cons VI.top_ok (Vw.cons VI.top_ok (Vw.cons VI.top_ok (Vw.cons VI.top_ok (Vw.cons (VI.msk_ok h4) (Vw.cons (VI.msk_ok h5) (Vw.cons VI.top_ok (Vw.cons (VI.of_ok ho) (Vw.cons (VI.of_ok (by simp)) (Vw.cons VI.top_ok (Vw.cons VI.top_ok (Vw.cons (VI.of_ok ?_) (Vw.cons (VI.of_ok ?_) hl))))))))))))
  · have : i11 = 0 ∨ i11 = 1 ∨ i11 = 2 ∨ i11 = 3 := by omega
    simpa using this
  · have : i12 = 0 ∨ i12 = 1 ∨ i12 = 2 := by omega
    simpa using this
/-- A cycle. -/
theorem take_ok (i0 i1 i2 i3 i4 i5 i6 i7 i8 i9 i10 i11 i12 v : Int) (b0 b1 b2 b3 b4 b5 b6 b7 b8 b9 b10 b11 c0 c1 c2 c3 : Bool) (ho : 0 ≤ i7) (ho' : i7 ≤ 255) (hv : 0 ≤ v) (hv' : v ≤ 255) (hm : may i4 i5 i7 i8 i11 i12 = true) :
    ∀ o, F13 [i0, i1, i2, i3, i4, i5, i6, i7, i8, i9, i10, i11, i12, v] [b0, b1, b2, b3, b4, b5, b6, b7, b8, b9, b10, b11, c0, c1, c2, c3] = o → o.2.getD 0 false = true ∧ o.1.getD 13 0 = 0 ∧ may (o.1.getD 4 0) (o.1.getD 5 0) (o.1.getD 7 0) (o.1.getD 8 0) (o.1.getD 11 0) (o.1.getD 12 0) = true ∧
      0 ≤ o.1.getD 7 0 ∧ o.1.getD 7 0 ≤ 255 ∧ (b10 = true → o.2.getD 11 false = true) := by
  intro o hF
  have ht : tmay i7 i8 = true := by
    unfold may at hm
    simp only [Bool.and_eq_true] at hm
    exact hm.1.1.1.1
  obtain ⟨O, vl, h1, h2, h3, _⟩ := look ho ho' hv hv' ht
  have hst := st_ok (i0 := i0) (i1 := i1) (i2 := i2) (i3 := i3) (i6 := i6) (i9 := i9) (i10 := i10) (l := [v]) (ls := [vl]) h1 hm (Vw.cons h2 VwI.nil)
  have hw := v13 (stI O [i8] ++ [vl]) (List.replicate 16 none) [i0, i1, i2, i3, i4, i5, i6, i7, i8, i9, i10, i11, i12, v] [b0, b1, b2, b3, b4, b5, b6, b7, b8, b9, b10, b11, c0, c1, c2, c3] rfl rfl hst reps
  have ho2 := v13 [VI.top, VI.top, VI.top, VI.top, VI.top, VI.top, VI.top, VI.msk 255, VI.top, VI.top, VI.top, VI.top, VI.top, VI.msk 255] (List.replicate 16 none) [i0, i1, i2, i3, i4, i5, i6, i7, i8, i9, i10, i11, i12, v] [b0, b1, b2, b3, b4, b5, b6, b7, b8, b9, b10, b11, c0, c1, c2, c3] rfl rfl
    (Vw.cons VI.top_ok (Vw.cons VI.top_ok (Vw.cons VI.top_ok (Vw.cons VI.top_ok (Vw.cons VI.top_ok (Vw.cons VI.top_ok (Vw.cons VI.top_ok (Vw.cons (VI.msk_ok (and255 ho ho')) (Vw.cons VI.top_ok (Vw.cons VI.top_ok (Vw.cons VI.top_ok (Vw.cons VI.top_ok (Vw.cons VI.top_ok (Vw.cons (VI.msk_ok (and255 hv hv')) VwI.nil)))))))))))))) reps
  rw [hF] at hw ho2
  unfold chkT at h3
  have h8 : 0 ≤ o.1.getD 7 0 ∧ o.1.getD 7 0 ≤ 255 := by
    have := VI.within_ok (m := 255) op_t (ho2.1 7)
    exact of_and255 this
  split at h3
  · rename_i oi ob heq
    rw [heq] at hw
    obtain ⟨h5, h6⟩ := outOk_ok h3 hw.1
    have h7 : o.2.getD 0 false = true := hw.2 0 true rfl
    refine ⟨h7, h5, h6, h8.1, h8.2, fun hb => ?_⟩
    have hc := v13 (List.replicate 14 VI.top) (ctlB 5) [i0, i1, i2, i3, i4, i5, i6, i7, i8, i9, i10, i11, i12, v] [b0, b1, b2, b3, b4, b5, b6, b7, b8, b9, b10, b11, c0, c1, c2, c3] rfl rfl repsI (by
      rw [hb]
      exact ctl_vw _ _ _ _ _ _ _ _ _ _ _)
    rw [hF] at hc
    have hk := ctl_t
    unfold chkC at hk
    split at hk
    · rename_i x bb he
      split at hk
      · rename_i he2
        have := hc.2 11 true (by rw [he]; exact he2)
        exact this
      · cases hk
    · cases hk
  · cases h3
/-- A cycle of waiting. -/
theorem wait_ok (i0 i1 i2 i3 i4 i5 i6 i7 i8 i9 i10 i11 i12 : Int) (b0 b1 b2 b3 b4 b5 b6 b7 b8 b9 b10 b11 c1 c2 c3 : Bool) (ho : 0 ≤ i7) (ho' : i7 ≤ 255) (hm : may i4 i5 i7 i8 i11 i12 = true) :
    ∀ o, F16 [i0, i1, i2, i3, i4, i5, i6, i7, i8, i9, i10, i11, i12] [b0, b1, b2, b3, b4, b5, b6, b7, b8, b9, b10, b11, c1, c2, c3] = o → o.1.getD 13 0 = 0 ∧ may (o.1.getD 4 0) (o.1.getD 5 0) (o.1.getD 7 0) (o.1.getD 8 0) (o.1.getD 11 0) (o.1.getD 12 0) = true ∧
      (b10 = true → o.2.getD 10 false = true) := by
  intro o hF
  have ht : tmay i7 i8 = true := by
    unfold may at hm
    simp only [Bool.and_eq_true] at hm
    exact hm.1.1.1.1
  obtain ⟨O, vl, h1, h2, _, h3⟩ := look (v := 0) ho ho' (by omega) (by omega) ht
  have hst := st_ok (i0 := i0) (i1 := i1) (i2 := i2) (i3 := i3) (i6 := i6) (i9 := i9) (i10 := i10) (l := []) (ls := []) h1 hm VwI.nil
  rw [List.append_nil] at hst
  have hw := v16 (stI O [i8]) (List.replicate 15 none) [i0, i1, i2, i3, i4, i5, i6, i7, i8, i9, i10, i11, i12] [b0, b1, b2, b3, b4, b5, b6, b7, b8, b9, b10, b11, c1, c2, c3] rfl rfl hst reps
  rw [hF] at hw
  unfold chkW at h3
  obtain ⟨h5, h6⟩ := outOk_ok h3 hw.1
  refine ⟨h5, h6, fun hb => ?_⟩
  have hc := v16 (List.replicate 13 VI.top) (ctlB 4) [i0, i1, i2, i3, i4, i5, i6, i7, i8, i9, i10, i11, i12] [b0, b1, b2, b3, b4, b5, b6, b7, b8, b9, b10, b11, c1, c2, c3] rfl rfl repsI (by
    rw [hb]
    exact ctl_vw _ _ _ _ _ _ _ _ _ _ _)
  rw [hF] at hc
  have hk := ctl_w
  unfold chkCW at hk
  split at hk
  · rename_i he2
    exact hc.2 10 true he2
  · cases hk
/-- The chapter's examples hold. -/
theorem awake : F9 [] [] = ([], [true, true]) := by
  have h := v9 [] [] [] [] rfl rfl VwI.nil VwB.nil
  have hk := aw
  have hl : (F9 [] []).1 = [] ∧ (F9 [] []).2.length = 2 := ⟨rfl, rfl⟩
  split at hk
  · rename_i he
    have h0 := h.2 0 true (by rw [he]; rfl)
    have h1 := h.2 1 true (by rw [he]; rfl)
    generalize F9 [] [] = q at hl h0 h1
    obtain ⟨qi, qb⟩ := q
    simp only at hl h0 h1
    obtain ⟨rfl, hl⟩ := hl
    match qb, hl, h0, h1 with
    | [x, y], _, h0, h1 =>
      simp only [List.getD_cons_zero, List.getD_cons_succ] at h0 h1
      rw [h0, h1]
  · cases hk
end Go.Proofs.YtalnndmnnffnmaaGreat.Cr
