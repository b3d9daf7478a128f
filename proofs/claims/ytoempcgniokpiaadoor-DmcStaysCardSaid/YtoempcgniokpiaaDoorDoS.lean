/-
  The walks of dmc's law over a list: what each function answers, by the executor. WRITTEN BY PROGRAM (wip/dev/Drv.lean). No condition.
-/
import Derived.Test.YtoempcgniokpiaaDoorSxU
import Derived.Test.YtoempcgniokpiaaDoorProg
set_option linter.unusedVariables false
namespace Go.Proofs.YtoempcgniokpiaaDoor.Do
open Go Go.Proofs.YtoempcgniokpiaaDoor.Sx

def per : List Int := [428, 380, 340, 320, 286, 254, 226, 214, 190, 160, 142, 128, 106, 84, 72, 54]
def gl : Gl := [per.map (Value.int .u16)]
noncomputable def T0 : List (Nat × Sum × Fun) := []
theorem A0 : AllOk Tryd.prog (tabF T0) gl (tabS T0) := AllOk.nil
/-! seepage/dmc.New -/
def s27 : Sum := { args := [], tup := false, res := [(true, [.bool, .bool, .bool, (.int .u8), (.int .u8), (.int .u16), (.int .u16), (.int .u16), (.int .u16), (.int .u8), .bool, (.int .u8), (.int .u8), .bool, (.int .u16)])], pre := false }
def S27 : Smry := (.mk [] [(.c 0), (.c 0), (.c 49152), (.c 1), (.c 49152), (.c 0), (.c 0), (.c 0), (.c 8), (.c 0)] [(.c false), (.c false), (.c false), (.c false), (.c true)])
theorem k27 : fnX Tryd.prog (tabS T0) gl (ctlOf Tryd.f27 gl s27) Tryd.f27 s27 = some S27 := by kernel_rfl
noncomputable def F27 : Fun := S27.run (tabF T0) false
theorem x27 : AllOk Tryd.prog (tabF T0) gl (tabS T0) := A0
theorem y27 : LoopsOk (tabF T0) (ctlOf Tryd.f27 gl s27) := (LoopsOk.nil rfl)
theorem z27 : (wsEm S27.em (argI s27.args) (argB s27.args) && shOk s27 && noOb S27.em) = true := by kernel_rfl
theorem d27 : Contract Tryd.prog gl 27 s27 (S27.run (tabF T0) s27.pre) := contract_of x27 Tryd.func27 y27 k27 z27
theorem c27 : Contract Tryd.prog gl 27 s27 F27 := d27
theorem call27 : ∀ args w, (callFunc 27 args).run Tryd.prog w = .ok (.enter 27 args) w := callable_of Tryd.func27 (by kernel_rfl) (by kernel_rfl)
noncomputable def e27 : Nat × Sum × Fun := (27, s27, F27)
noncomputable def T1 : List (Nat × Sum × Fun) := e27 :: T0
theorem A1 : AllOk Tryd.prog (tabF T1) gl (tabS T1) := AllOk.cons (s := e27.2.1) c27 call27 (fun S h => by cases h) A0
/-! seepage/dmc.Check -/
def s17 : Sum := { args := [(.val true [.bool, .bool, .bool, (.int .u8), (.int .u8), (.int .u16), (.int .u16), (.int .u16), (.int .u16), (.int .u8), .bool, (.int .u8), (.int .u8), .bool, (.int .u16)])], tup := false, res := [(false, [(.int .i64)])], pre := false }
def S17 : Smry := (.mk [(.db 5 (.cm .gtr (.v 0) (.c 15))), (.db 6 (.cm .gtr (.v 1) (.c 127))), (.db 7 (.or (.v 5) (.v 6))), (.di 10 (.mn (.v 2) (.v 4))), (.db 8 (.cm .lss (.v 10) (.c 32768))), (.db 9 (.or (.v 7) (.v 8))), (.di 11 (.mx (.v 3) (.v 5))), (.db 10 (.cm .gtr (.v 11) (.c 4081))), (.db 11 (.or (.v 9) (.v 10))), (.db 12 (.cm .lss (.v 8) (.c 1))), (.db 13 (.or (.v 11) (.v 12))), (.db 14 (.cm .gtr (.v 8) (.c 8))), (.db 15 (.or (.v 13) (.v 14))), (.db 16 (.cm .geq (.v 9) (.c 428))), (.db 17 (.or (.v 15) (.v 16))), (.db 18 (.not (.v 17))), (.di 12 (.ite (.v 18) (.c 0) (.c 1)))] [(.v 12)] [])
theorem k17 : fnX Tryd.prog (tabS T1) gl (ctlOf Tryd.f17 gl s17) Tryd.f17 s17 = some S17 := by kernel_rfl
noncomputable def F17 : Fun := S17.run (tabF T1) false
theorem x17 : AllOk Tryd.prog (tabF T1) gl (tabS T1) := A1
theorem y17 : LoopsOk (tabF T1) (ctlOf Tryd.f17 gl s17) := (LoopsOk.nil rfl)
theorem z17 : (wsEm S17.em (argI s17.args) (argB s17.args) && shOk s17 && noOb S17.em) = true := by kernel_rfl
theorem d17 : Contract Tryd.prog gl 17 s17 (S17.run (tabF T1) s17.pre) := contract_of x17 Tryd.func17 y17 k17 z17
theorem c17 : Contract Tryd.prog gl 17 s17 F17 := d17
theorem call17 : ∀ args w, (callFunc 17 args).run Tryd.prog w = .ok (.enter 17 args) w := callable_of Tryd.func17 (by kernel_rfl) (by kernel_rfl)
noncomputable def e17 : Nat × Sum × Fun := (17, s17, F17)
noncomputable def T2 : List (Nat × Sum × Fun) := e17 :: T1
theorem A2 : AllOk Tryd.prog (tabF T2) gl (tabS T2) := AllOk.cons (s := e17.2.1) c17 call17 (fun S h => by cases h) A1
/-! seepage/dmc.swing -/
def s67 : Sum := { args := [(.ptr [.bool, .bool, .bool, (.int .u8), (.int .u8), (.int .u16), (.int .u16), (.int .u16), (.int .u16), (.int .u8), .bool, (.int .u8), (.int .u8), .bool, (.int .u16)])], tup := true, res := [], pre := false }
def S67 : Smry := (.mk [(.di 10 (.ar .and .u8 (.v 7) (.c 1))), (.db 5 (.cm .gtr (.v 10) (.c 0))), (.db 6 (.cm .leq (.v 1) (.c 125))), (.db 7 (.and (.v 5) (.v 6))), (.di 11 (.ar .add .u8 (.v 1) (.c 2))), (.db 8 (.not (.v 5))), (.db 9 (.cm .geq (.v 1) (.c 2))), (.db 10 (.and (.v 8) (.v 9))), (.di 12 (.ar .sub .u8 (.v 1) (.c 2))), (.di 13 (.ite (.v 10) (.v 12) (.v 1))), (.di 14 (.ite (.v 7) (.v 11) (.v 13)))] [(.v 0), (.v 14), (.v 2), (.v 3), (.v 4), (.v 5), (.v 6), (.v 7), (.v 8), (.v 9)] [(.v 0), (.v 1), (.v 2), (.v 3), (.v 4)])
theorem k67 : fnX Tryd.prog (tabS T2) gl (ctlOf Tryd.f67 gl s67) Tryd.f67 s67 = some S67 := by kernel_rfl
noncomputable def F67 : Fun := S67.run (tabF T2) false
theorem x67 : AllOk Tryd.prog (tabF T2) gl (tabS T2) := A2
theorem y67 : LoopsOk (tabF T2) (ctlOf Tryd.f67 gl s67) := (LoopsOk.nil rfl)
theorem z67 : (wsEm S67.em (argI s67.args) (argB s67.args) && shOk s67 && noOb S67.em) = true := by kernel_rfl
theorem d67 : Contract Tryd.prog gl 67 s67 (S67.run (tabF T2) s67.pre) := contract_of x67 Tryd.func67 y67 k67 z67
theorem c67 : Contract Tryd.prog gl 67 s67 F67 := d67
theorem call67 : ∀ args w, (callFunc 67 args).run Tryd.prog w = .ok (.enter 67 args) w := callable_of Tryd.func67 (by kernel_rfl) (by kernel_rfl)
noncomputable def e67 : Nat × Sum × Fun := (67, withInl s67 S67, F67)
noncomputable def T3 : List (Nat × Sum × Fun) := e67 :: T2
theorem A3 : AllOk Tryd.prog (tabF T3) gl (tabS T3) := AllOk.cons (s := e67.2.1) c67 call67 (fun S h => by cases h; exact ⟨rfl, fun _ _ => rfl⟩) A2
/-! seepage/dmc.Tick -/
def s25 : Sum := { args := [(.val true [.bool, .bool, .bool, (.int .u8), (.int .u8), (.int .u16), (.int .u16), (.int .u16), (.int .u16), (.int .u8), .bool, (.int .u8), (.int .u8), .bool, (.int .u16)])], tup := false, res := [(true, [.bool, .bool, .bool, (.int .u8), (.int .u8), (.int .u16), (.int .u16), (.int .u16), (.int .u16), (.int .u8), .bool, (.int .u8), (.int .u8), .bool, (.int .u16)])], pre := true }
def S25 : Smry := (.mk [(.call 17 [(.v 0), (.v 1), (.v 2), (.v 3), (.v 4), (.v 5), (.v 6), (.v 7), (.v 8), (.v 9)] [(.v 0), (.v 1), (.v 2), (.v 3), (.v 4)] 10 1 5 0), (.db 5 (.cm .neq (.v 10) (.c 0))), (.db 6 (.cm .gtr (.v 9) (.c 0))), (.di 11 (.ar .sub .u16 (.v 9) (.c 1))), (.db 7 (.cm .geq (.v 0) (.c 0))), (.ob [((.v 5), false), ((.v 6), false)] (.v 7)), (.db 8 (.cm .lss (.v 0) (.c 16))), (.ob [((.v 5), false), ((.v 6), false)] (.v 8)), (.di 12 (.tab [428, 380, 340, 320, 286, 254, 226, 214, 190, 160, 142, 128, 106, 84, 72, 54] (.v 0))), (.di 13 (.ar .sub .u16 (.v 12) (.c 1))), (.db 9 (.not (.v 4))), (.di 14 (.ar .and .u8 (.v 7) (.c 1))), (.db 10 (.cm .gtr (.v 14) (.c 0))), (.db 11 (.cm .leq (.v 1) (.c 125))), (.db 12 (.and (.v 10) (.v 11))), (.di 15 (.ar .add .u8 (.v 1) (.c 2))), (.db 13 (.not (.v 10))), (.db 14 (.cm .geq (.v 1) (.c 2))), (.db 15 (.and (.v 13) (.v 14))), (.di 16 (.ar .sub .u8 (.v 1) (.c 2))), (.di 17 (.ite (.v 15) (.v 16) (.v 1))), (.di 18 (.ite (.v 12) (.v 15) (.v 17))), (.di 19 (.ite (.v 9) (.v 18) (.v 1))), (.di 20 (.ar .shr .u8 (.v 7) (.c 1))), (.di 21 (.ar .sub .u8 (.v 8) (.c 1))), (.db 16 (.cm .gtr (.v 21) (.c 0))), (.db 17 (.not (.v 3))), (.db 18 (.ite (.v 3) (.c false) (.v 3))), (.di 22 (.ite (.v 3) (.v 6) (.v 20))), (.db 19 (.not (.v 16))), (.db 20 (.ite (.v 19) (.v 18) (.v 3))), (.di 23 (.ite (.v 19) (.v 22) (.v 20))), (.di 24 (.ite (.v 19) (.c 8) (.v 21))), (.db 21 (.ite (.v 19) (.v 17) (.v 4))), (.db 22 (.not (.v 6))), (.di 25 (.ite (.v 22) (.v 19) (.v 1))), (.db 23 (.ite (.v 22) (.v 20) (.v 3))), (.di 26 (.ite (.v 22) (.v 23) (.v 7))), (.di 27 (.ite (.v 22) (.v 24) (.v 8))), (.db 24 (.ite (.v 22) (.v 21) (.v 4))), (.di 28 (.ite (.v 22) (.v 13) (.v 11))), (.db 25 (.not (.v 5))), (.di 29 (.ite (.v 25) (.v 25) (.v 1))), (.db 26 (.ite (.v 25) (.v 23) (.v 3))), (.di 30 (.ite (.v 25) (.v 26) (.v 7))), (.di 31 (.ite (.v 25) (.v 27) (.v 8))), (.db 27 (.ite (.v 25) (.v 24) (.v 4))), (.di 32 (.ite (.v 25) (.v 28) (.v 9)))] [(.v 0), (.v 29), (.v 2), (.v 3), (.v 4), (.v 5), (.v 6), (.v 30), (.v 31), (.v 32)] [(.v 0), (.v 1), (.v 2), (.v 26), (.v 27)])
theorem k25 : fnX Tryd.prog (tabS T3) gl (ctlOf Tryd.f25 gl s25) Tryd.f25 s25 = some S25 := by kernel_rfl
noncomputable def F25 : Fun := S25.run (tabF T3) true
theorem x25 : AllOk Tryd.prog (tabF T3) gl (tabS T3) := A3
theorem y25 : LoopsOk (tabF T3) (ctlOf Tryd.f25 gl s25) := (LoopsOk.nil rfl)
theorem z25 : (wsEm S25.em (argI s25.args) (argB s25.args) && shOk s25 && s25.pre) = true := by kernel_rfl
theorem d25 : Contract Tryd.prog gl 25 s25 (S25.run (tabF T3) s25.pre) := contract_pre x25 Tryd.func25 y25 k25 z25
theorem c25 : Contract Tryd.prog gl 25 s25 F25 := d25
theorem call25 : ∀ args w, (callFunc 25 args).run Tryd.prog w = .ok (.enter 25 args) w := callable_of Tryd.func25 (by kernel_rfl) (by kernel_rfl)
noncomputable def e25 : Nat × Sum × Fun := (25, s25, F25)
noncomputable def T4 : List (Nat × Sum × Fun) := e25 :: T3
theorem A4 : AllOk Tryd.prog (tabF T4) gl (tabS T4) := AllOk.cons (s := e25.2.1) c25 call25 (fun S h => by cases h) A3
/-! seepage/dmc.Write -/
def s19 : Sum := { args := [(.val true [.bool, .bool, .bool, (.int .u8), (.int .u8), (.int .u16), (.int .u16), (.int .u16), (.int .u16), (.int .u8), .bool, (.int .u8), (.int .u8), .bool, (.int .u16)]), (.val false [(.int .i64)]), (.val false [(.int .u8)])], tup := false, res := [(true, [.bool, .bool, .bool, (.int .u8), (.int .u8), (.int .u16), (.int .u16), (.int .u16), (.int .u16), (.int .u8), .bool, (.int .u8), (.int .u8), .bool, (.int .u16)])], pre := false }
def S19 : Smry := (.mk [(.call 17 [(.v 0), (.v 1), (.v 2), (.v 3), (.v 4), (.v 5), (.v 6), (.v 7), (.v 8), (.v 9)] [(.v 0), (.v 1), (.v 2), (.v 3), (.v 4)] 12 1 5 0), (.db 5 (.cm .neq (.v 12) (.c 0))), (.db 6 (.cm .eql (.v 10) (.c 0))), (.di 13 (.ar .and .u8 (.v 11) (.c 128))), (.db 7 (.cm .gtr (.v 13) (.c 0))), (.di 14 (.ar .and .u8 (.v 11) (.c 64))), (.db 8 (.cm .gtr (.v 14) (.c 0))), (.di 15 (.ar .and .u8 (.v 11) (.c 15))), (.db 9 (.and (.v 2) (.v 7))), (.db 10 (.cm .eql (.v 10) (.c 1))), (.di 16 (.ar .and .u8 (.v 11) (.c 127))), (.db 11 (.cm .eql (.v 10) (.c 2))), (.di 17 (.cv .u16 (.v 11))), (.di 18 (.ar .mul .u16 (.c 64) (.v 17))), (.di 19 (.ar .add .u16 (.c 49152) (.v 18))), (.db 12 (.cm .eql (.v 10) (.c 3))), (.di 20 (.cv .u16 (.v 11))), (.di 21 (.ar .mul .u16 (.c 16) (.v 20))), (.di 22 (.ar .add .u16 (.v 21) (.c 1))), (.di 23 (.ite (.v 12) (.v 22) (.v 3))), (.di 24 (.ite (.v 11) (.v 19) (.v 2))), (.di 25 (.ite (.v 11) (.v 3) (.v 23))), (.di 26 (.ite (.v 10) (.v 16) (.v 1))), (.di 27 (.ite (.v 10) (.v 2) (.v 24))), (.di 28 (.ite (.v 10) (.v 3) (.v 25))), (.db 13 (.ite (.v 6) (.v 7) (.v 0))), (.db 14 (.ite (.v 6) (.v 8) (.v 1))), (.db 15 (.ite (.v 6) (.v 9) (.v 2))), (.di 29 (.ite (.v 6) (.v 15) (.v 0))), (.di 30 (.ite (.v 6) (.v 1) (.v 26))), (.di 31 (.ite (.v 6) (.v 2) (.v 27))), (.di 32 (.ite (.v 6) (.v 3) (.v 28))), (.db 16 (.not (.v 5))), (.db 17 (.ite (.v 16) (.v 13) (.v 0))), (.db 18 (.ite (.v 16) (.v 14) (.v 1))), (.db 19 (.ite (.v 16) (.v 15) (.v 2))), (.di 33 (.ite (.v 16) (.v 29) (.v 0))), (.di 34 (.ite (.v 16) (.v 30) (.v 1))), (.di 35 (.ite (.v 16) (.v 31) (.v 2))), (.di 36 (.ite (.v 16) (.v 32) (.v 3)))] [(.v 33), (.v 34), (.v 35), (.v 36), (.v 4), (.v 5), (.v 6), (.v 7), (.v 8), (.v 9)] [(.v 17), (.v 18), (.v 19), (.v 3), (.v 4)])
theorem k19 : fnX Tryd.prog (tabS T4) gl (ctlOf Tryd.f19 gl s19) Tryd.f19 s19 = some S19 := by kernel_rfl
noncomputable def F19 : Fun := S19.run (tabF T4) false
theorem x19 : AllOk Tryd.prog (tabF T4) gl (tabS T4) := A4
theorem y19 : LoopsOk (tabF T4) (ctlOf Tryd.f19 gl s19) := (LoopsOk.nil rfl)
theorem z19 : (wsEm S19.em (argI s19.args) (argB s19.args) && shOk s19 && noOb S19.em) = true := by kernel_rfl
theorem d19 : Contract Tryd.prog gl 19 s19 (S19.run (tabF T4) s19.pre) := contract_of x19 Tryd.func19 y19 k19 z19
theorem c19 : Contract Tryd.prog gl 19 s19 F19 := d19
theorem call19 : ∀ args w, (callFunc 19 args).run Tryd.prog w = .ok (.enter 19 args) w := callable_of Tryd.func19 (by kernel_rfl) (by kernel_rfl)
noncomputable def e19 : Nat × Sum × Fun := (19, s19, F19)
noncomputable def T5 : List (Nat × Sum × Fun) := e19 :: T4
theorem A5 : AllOk Tryd.prog (tabF T5) gl (tabS T5) := AllOk.cons (s := e19.2.1) c19 call19 (fun S h => by cases h) A4
/-! seepage/dmc.begin -/
def s66 : Sum := { args := [(.ptr [.bool, .bool, .bool, (.int .u8), (.int .u8), (.int .u16), (.int .u16), (.int .u16), (.int .u16), (.int .u8), .bool, (.int .u8), (.int .u8), .bool, (.int .u16)])], tup := true, res := [], pre := false }
def S66 : Smry := (.mk [] [(.v 0), (.v 1), (.v 2), (.v 3), (.v 2), (.v 3), (.v 6), (.v 7), (.v 8), (.v 9)] [(.v 0), (.v 1), (.v 2), (.v 3), (.v 4)])
theorem k66 : fnX Tryd.prog (tabS T5) gl (ctlOf Tryd.f66 gl s66) Tryd.f66 s66 = some S66 := by kernel_rfl
noncomputable def F66 : Fun := S66.run (tabF T5) false
theorem x66 : AllOk Tryd.prog (tabF T5) gl (tabS T5) := A5
theorem y66 : LoopsOk (tabF T5) (ctlOf Tryd.f66 gl s66) := (LoopsOk.nil rfl)
theorem z66 : (wsEm S66.em (argI s66.args) (argB s66.args) && shOk s66 && noOb S66.em) = true := by kernel_rfl
theorem d66 : Contract Tryd.prog gl 66 s66 (S66.run (tabF T5) s66.pre) := contract_of x66 Tryd.func66 y66 k66 z66
theorem c66 : Contract Tryd.prog gl 66 s66 F66 := d66
theorem call66 : ∀ args w, (callFunc 66 args).run Tryd.prog w = .ok (.enter 66 args) w := callable_of Tryd.func66 (by kernel_rfl) (by kernel_rfl)
noncomputable def e66 : Nat × Sum × Fun := (66, withInl s66 S66, F66)
noncomputable def T6 : List (Nat × Sum × Fun) := e66 :: T5
theorem A6 : AllOk Tryd.prog (tabF T6) gl (tabS T6) := AllOk.cons (s := e66.2.1) c66 call66 (fun S h => by cases h; exact ⟨rfl, fun _ _ => rfl⟩) A5
/-! seepage/dmc.On -/
def s21 : Sum := { args := [(.val true [.bool, .bool, .bool, (.int .u8), (.int .u8), (.int .u16), (.int .u16), (.int .u16), (.int .u16), (.int .u8), .bool, (.int .u8), (.int .u8), .bool, (.int .u16)]), (.val false [.bool])], tup := false, res := [(true, [.bool, .bool, .bool, (.int .u8), (.int .u8), (.int .u16), (.int .u16), (.int .u16), (.int .u16), (.int .u8), .bool, (.int .u8), (.int .u8), .bool, (.int .u16)])], pre := false }
def S21 : Smry := (.mk [(.call 17 [(.v 0), (.v 1), (.v 2), (.v 3), (.v 4), (.v 5), (.v 6), (.v 7), (.v 8), (.v 9)] [(.v 0), (.v 1), (.v 2), (.v 3), (.v 4)] 10 1 6 0), (.db 6 (.cm .neq (.v 10) (.c 0))), (.db 7 (.not (.v 5))), (.db 8 (.cm .eql (.v 5) (.c 0))), (.di 11 (.ite (.v 8) (.v 2) (.v 4))), (.di 12 (.ite (.v 8) (.v 3) (.v 5))), (.di 13 (.ite (.v 7) (.v 4) (.v 11))), (.di 14 (.ite (.v 7) (.c 0) (.v 12))), (.db 9 (.not (.v 6))), (.db 10 (.ite (.v 9) (.c false) (.v 2))), (.di 15 (.ite (.v 9) (.v 13) (.v 4))), (.di 16 (.ite (.v 9) (.v 14) (.v 5)))] [(.v 0), (.v 1), (.v 2), (.v 3), (.v 15), (.v 16), (.v 6), (.v 7), (.v 8), (.v 9)] [(.v 0), (.v 1), (.v 10), (.v 3), (.v 4)])
theorem k21 : fnX Tryd.prog (tabS T6) gl (ctlOf Tryd.f21 gl s21) Tryd.f21 s21 = some S21 := by kernel_rfl
noncomputable def F21 : Fun := S21.run (tabF T6) false
theorem x21 : AllOk Tryd.prog (tabF T6) gl (tabS T6) := A6
theorem y21 : LoopsOk (tabF T6) (ctlOf Tryd.f21 gl s21) := (LoopsOk.nil rfl)
theorem z21 : (wsEm S21.em (argI s21.args) (argB s21.args) && shOk s21 && noOb S21.em) = true := by kernel_rfl
theorem d21 : Contract Tryd.prog gl 21 s21 (S21.run (tabF T6) s21.pre) := contract_of x21 Tryd.func21 y21 k21 z21
theorem c21 : Contract Tryd.prog gl 21 s21 F21 := d21
theorem call21 : ∀ args w, (callFunc 21 args).run Tryd.prog w = .ok (.enter 21 args) w := callable_of Tryd.func21 (by kernel_rfl) (by kernel_rfl)
noncomputable def e21 : Nat × Sum × Fun := (21, s21, F21)
noncomputable def T7 : List (Nat × Sum × Fun) := e21 :: T6
theorem A7 : AllOk Tryd.prog (tabF T7) gl (tabS T7) := AllOk.cons (s := e21.2.1) c21 call21 (fun S h => by cases h) A6
/-! seepage/dmc.Need -/
def s15 : Sum := { args := [(.val true [.bool, .bool, .bool, (.int .u8), (.int .u8), (.int .u16), (.int .u16), (.int .u16), (.int .u16), (.int .u8), .bool, (.int .u8), (.int .u8), .bool, (.int .u16)])], tup := true, res := [(false, [(.int .u16)]), (false, [.bool])], pre := false }
def S15 : Smry := (.mk [(.call 17 [(.v 0), (.v 1), (.v 2), (.v 3), (.v 4), (.v 5), (.v 6), (.v 7), (.v 8), (.v 9)] [(.v 0), (.v 1), (.v 2), (.v 3), (.v 4)] 10 1 5 0), (.db 5 (.cm .neq (.v 10) (.c 0))), (.db 6 (.or (.v 5) (.v 3))), (.db 7 (.cm .eql (.v 5) (.c 0))), (.db 8 (.or (.v 6) (.v 7))), (.db 9 (.not (.v 8))), (.di 11 (.ite (.v 9) (.v 4) (.c 0)))] [(.v 11)] [(.v 9)])
theorem k15 : fnX Tryd.prog (tabS T7) gl (ctlOf Tryd.f15 gl s15) Tryd.f15 s15 = some S15 := by kernel_rfl
noncomputable def F15 : Fun := S15.run (tabF T7) false
theorem x15 : AllOk Tryd.prog (tabF T7) gl (tabS T7) := A7
theorem y15 : LoopsOk (tabF T7) (ctlOf Tryd.f15 gl s15) := (LoopsOk.nil rfl)
theorem z15 : (wsEm S15.em (argI s15.args) (argB s15.args) && shOk s15 && noOb S15.em) = true := by kernel_rfl
theorem d15 : Contract Tryd.prog gl 15 s15 (S15.run (tabF T7) s15.pre) := contract_of x15 Tryd.func15 y15 k15 z15
theorem c15 : Contract Tryd.prog gl 15 s15 F15 := d15
theorem call15 : ∀ args w, (callFunc 15 args).run Tryd.prog w = .ok (.enter 15 args) w := callable_of Tryd.func15 (by kernel_rfl) (by kernel_rfl)
noncomputable def e15 : Nat × Sum × Fun := (15, s15, F15)
noncomputable def T8 : List (Nat × Sum × Fun) := e15 :: T7
theorem A8 : AllOk Tryd.prog (tabF T8) gl (tabS T8) := AllOk.cons (s := e15.2.1) c15 call15 (fun S h => by cases h) A7
/-! seepage/dmc.Feed -/
def s23 : Sum := { args := [(.val true [.bool, .bool, .bool, (.int .u8), (.int .u8), (.int .u16), (.int .u16), (.int .u16), (.int .u16), (.int .u8), .bool, (.int .u8), (.int .u8), .bool, (.int .u16)]), (.val false [(.int .u8)])], tup := false, res := [(true, [.bool, .bool, .bool, (.int .u8), (.int .u8), (.int .u16), (.int .u16), (.int .u16), (.int .u16), (.int .u8), .bool, (.int .u8), (.int .u8), .bool, (.int .u16)])], pre := false }
def S23 : Smry := (.mk [(.call 15 [(.v 0), (.v 1), (.v 2), (.v 3), (.v 4), (.v 5), (.v 6), (.v 7), (.v 8), (.v 9)] [(.v 0), (.v 1), (.v 2), (.v 3), (.v 4)] 11 1 5 1), (.db 6 (.not (.v 5))), (.di 12 (.ar .add .u16 (.v 4) (.c 1))), (.di 13 (.ar .or .u16 (.v 12) (.c 32768))), (.di 14 (.ar .sub .u16 (.v 5) (.c 1))), (.db 7 (.cm .gtr (.v 14) (.c 0))), (.db 8 (.or (.v 2) (.v 0))), (.db 9 (.ite (.v 1) (.v 2) (.v 8))), (.di 15 (.ite (.v 1) (.v 2) (.v 13))), (.di 16 (.ite (.v 1) (.v 3) (.v 14))), (.db 10 (.not (.v 7))), (.db 11 (.ite (.v 10) (.v 9) (.v 2))), (.di 17 (.ite (.v 10) (.v 15) (.v 13))), (.di 18 (.ite (.v 10) (.v 16) (.v 14))), (.db 12 (.not (.v 6))), (.db 13 (.ite (.v 12) (.v 11) (.v 2))), (.di 19 (.ite (.v 12) (.v 17) (.v 4))), (.di 20 (.ite (.v 12) (.v 18) (.v 5))), (.di 21 (.ite (.v 12) (.v 10) (.v 6))), (.db 14 (.or (.v 12) (.v 3)))] [(.v 0), (.v 1), (.v 2), (.v 3), (.v 19), (.v 20), (.v 21), (.v 7), (.v 8), (.v 9)] [(.v 0), (.v 1), (.v 13), (.v 14), (.v 4)])
theorem k23 : fnX Tryd.prog (tabS T8) gl (ctlOf Tryd.f23 gl s23) Tryd.f23 s23 = some S23 := by kernel_rfl
noncomputable def F23 : Fun := S23.run (tabF T8) false
theorem x23 : AllOk Tryd.prog (tabF T8) gl (tabS T8) := A8
theorem y23 : LoopsOk (tabF T8) (ctlOf Tryd.f23 gl s23) := (LoopsOk.nil rfl)
theorem z23 : (wsEm S23.em (argI s23.args) (argB s23.args) && shOk s23 && noOb S23.em) = true := by kernel_rfl
theorem d23 : Contract Tryd.prog gl 23 s23 (S23.run (tabF T8) s23.pre) := contract_of x23 Tryd.func23 y23 k23 z23
theorem c23 : Contract Tryd.prog gl 23 s23 F23 := d23
theorem call23 : ∀ args w, (callFunc 23 args).run Tryd.prog w = .ok (.enter 23 args) w := callable_of Tryd.func23 (by kernel_rfl) (by kernel_rfl)
noncomputable def e23 : Nat × Sum × Fun := (23, s23, F23)
noncomputable def T9 : List (Nat × Sum × Fun) := e23 :: T8
theorem A9 : AllOk Tryd.prog (tabF T9) gl (tabS T9) := AllOk.cons (s := e23.2.1) c23 call23 (fun S h => by cases h) A8
/-! seepage/seepagelaw19.awake -/
def s28 : Sum := { args := [], tup := false, res := [(false, [.bool])], pre := true }
def S28 : Smry := (.mk [(.call 27 [] [] 0 10 0 5), (.call 19 [(.v 0), (.v 1), (.v 2), (.v 3), (.v 4), (.v 5), (.v 6), (.v 7), (.v 8), (.v 9), (.c 2), (.c 1)] [(.v 0), (.v 1), (.v 2), (.v 3), (.v 4)] 10 10 5 5), (.call 21 [(.v 10), (.v 11), (.v 12), (.v 13), (.v 14), (.v 15), (.v 16), (.v 17), (.v 18), (.v 19)] [(.v 5), (.v 6), (.v 7), (.v 8), (.v 9), (.c true)] 20 10 10 5), (.call 15 [(.v 20), (.v 21), (.v 22), (.v 23), (.v 24), (.v 25), (.v 26), (.v 27), (.v 28), (.v 29)] [(.v 10), (.v 11), (.v 12), (.v 13), (.v 14)] 30 1 15 1), (.call 23 [(.v 20), (.v 21), (.v 22), (.v 23), (.v 24), (.v 25), (.v 26), (.v 27), (.v 28), (.v 29), (.c 5)] [(.v 10), (.v 11), (.v 12), (.v 13), (.v 14)] 31 10 16 5), (.call 15 [(.v 31), (.v 32), (.v 33), (.v 34), (.v 35), (.v 36), (.v 37), (.v 38), (.v 39), (.v 40)] [(.v 16), (.v 17), (.v 18), (.v 19), (.v 20)] 41 1 21 1), (.db 22 (.cm .eql (.v 30) (.c 49216))), (.db 23 (.and (.v 22) (.v 15))), (.db 24 (.not (.v 21))), (.db 25 (.and (.v 23) (.v 24))), (.call 25 [(.c 0), (.c 127), (.c 32768), (.c 0), (.c 32768), (.c 0), (.c 0), (.c 1), (.c 8), (.c 0)] [(.c false), (.c false), (.c false), (.c false), (.c false)] 42 10 26 6), (.ob [((.v 25), true)] (.v 26)), (.db 32 (.cm .eql (.v 43) (.c 127))), (.db 33 (.and (.v 25) (.v 32))), (.call 27 [] [] 52 10 34 5), (.call 17 [(.v 52), (.v 53), (.v 54), (.v 55), (.v 56), (.v 57), (.v 58), (.v 59), (.v 60), (.v 61)] [(.v 34), (.v 35), (.v 36), (.v 37), (.v 38)] 62 1 39 0), (.db 39 (.cm .eql (.v 62) (.c 0))), (.db 40 (.and (.v 33) (.v 39)))] [] [(.v 40)])
theorem k28 : fnX Tryd.prog (tabS T9) gl (ctlOf Tryd.f28 gl s28) Tryd.f28 s28 = some S28 := by kernel_rfl
noncomputable def F28 : Fun := S28.run (tabF T9) true
theorem x28 : AllOk Tryd.prog (tabF T9) gl (tabS T9) := A9
theorem y28 : LoopsOk (tabF T9) (ctlOf Tryd.f28 gl s28) := (LoopsOk.nil rfl)
theorem z28 : (wsEm S28.em (argI s28.args) (argB s28.args) && shOk s28 && s28.pre) = true := by kernel_rfl
theorem d28 : Contract Tryd.prog gl 28 s28 (S28.run (tabF T9) s28.pre) := contract_pre x28 Tryd.func28 y28 k28 z28
theorem c28 : Contract Tryd.prog gl 28 s28 F28 := d28
theorem call28 : ∀ args w, (callFunc 28 args).run Tryd.prog w = .ok (.enter 28 args) w := callable_of Tryd.func28 (by kernel_rfl) (by kernel_rfl)
noncomputable def e28 : Nat × Sum × Fun := (28, s28, F28)
noncomputable def T10 : List (Nat × Sum × Fun) := e28 :: T9
theorem A10 : AllOk Tryd.prog (tabF T10) gl (tabS T10) := AllOk.cons (s := e28.2.1) c28 call28 (fun S h => by cases h) A9
/-! seepage/seepagelaw19.DmcStays -/
def s4 : Sum := { args := [(.val true [.bool, .bool, .bool, (.int .u8), (.int .u8), (.int .u16), (.int .u16), (.int .u16), (.int .u16), (.int .u8), .bool, (.int .u8), (.int .u8), .bool, (.int .u16)]), (.sli [(.int .u16)])], tup := false, res := [(false, [.bool])], pre := true }
def S4 : Smry := (.mk [(.call 17 [(.v 0), (.v 1), (.v 2), (.v 3), (.v 4), (.v 5), (.v 6), (.v 7), (.v 8), (.v 9)] [(.v 0), (.v 1), (.v 2), (.v 3), (.v 4)] 12 1 5 0), (.db 5 (.cm .neq (.v 12) (.c 0))), (.call 28 [] [] 13 0 6 2), (.ob [((.v 5), true)] (.v 6)), (.call 100400 [(.v 10), (.v 11), (.c 0), (.v 0), (.v 1), (.v 2), (.v 3), (.v 4), (.v 5), (.v 6), (.v 7), (.v 8), (.v 9)] [(.v 0), (.v 1), (.v 2), (.v 3), (.v 4)] 13 0 8 3), (.ob [((.v 5), false)] (.v 8)), (.call 28 [] [] 13 0 11 2), (.ob [((.v 5), false), ((.v 10), true)] (.v 11)), (.db 13 (.and (.v 10) (.v 12))), (.db 14 (.not (.v 5))), (.db 15 (.ite (.v 14) (.v 13) (.v 7)))] [] [(.v 15)])
def L100400 : LAnn := { id := 100400, ga := [10, 11], gb := [], hv := [5], dr := [3, 11, 12, 14, 15, 16, 17, 18, 19, 20, 21, 23, 24, 25, 26, 27, 28, 29, 30, 31, 32, 33, 34, 35, 36, 37, 38, 39, 40, 41, 42, 43, 44, 45, 46, 47, 48, 49, 50, 51, 52, 53, 54, 55, 56, 57, 58, 59, 60, 61, 62, 63, 64, 65, 66, 67, 68, 69, 70, 71, 72, 73, 74, 75, 76, 77, 78, 79, 80, 81, 82, 84, 85, 86, 87, 88, 91, 92, 94, 95, 97, 98, 100, 101, 102], hb := [2], db := [], xs := [4], xb := [], nI := 13, nB := 5, S := (.mk [(.db 5 (.cm .lss (.v 2) (.v 1))), (.db 6 (.cm .lss (.v 2) (.c 100))), (.db 7 (.and (.v 5) (.v 6))), (.db 8 (.cm .geq (.v 2) (.c 0))), (.ob [((.v 7), true)] (.v 8)), (.db 9 (.cm .lss (.v 2) (.v 1))), (.ob [((.v 7), true)] (.v 9)), (.di 13 (.get (.v 0) (.v 2) 1 0)), (.di 14 (.cv .u8 (.v 13))), (.db 10 (.cm .geq (.v 2) (.c 0))), (.ob [((.v 7), true)] (.v 10)), (.db 11 (.cm .lss (.v 2) (.v 1))), (.ob [((.v 7), true)] (.v 11)), (.di 15 (.get (.v 0) (.v 2) 1 0)), (.di 16 (.ar .shr .u16 (.v 15) (.c 8))), (.di 17 (.ar .and .u16 (.v 16) (.c 3))), (.di 18 (.cv .i64 (.v 17))), (.call 19 [(.v 3), (.v 4), (.v 5), (.v 6), (.v 7), (.v 8), (.v 9), (.v 10), (.v 11), (.v 12), (.v 18), (.v 14)] [(.v 0), (.v 1), (.v 2), (.v 3), (.v 4)] 19 10 12 5), (.di 29 (.ar .and .u8 (.v 14) (.c 1))), (.db 17 (.cm .gtr (.v 29) (.c 0))), (.call 21 [(.v 3), (.v 4), (.v 5), (.v 6), (.v 7), (.v 8), (.v 9), (.v 10), (.v 11), (.v 12)] [(.v 0), (.v 1), (.v 2), (.v 3), (.v 4), (.v 17)] 30 10 18 5), (.call 23 [(.v 3), (.v 4), (.v 5), (.v 6), (.v 7), (.v 8), (.v 9), (.v 10), (.v 11), (.v 12), (.v 14)] [(.v 0), (.v 1), (.v 2), (.v 3), (.v 4)] 40 10 23 5), (.call 25 [(.v 3), (.v 4), (.v 5), (.v 6), (.v 7), (.v 8), (.v 9), (.v 10), (.v 11), (.v 12)] [(.v 0), (.v 1), (.v 2), (.v 3), (.v 4)] 50 10 28 6), (.ob [((.v 7), true)] (.v 28)), (.call 17 [(.v 19), (.v 20), (.v 21), (.v 22), (.v 23), (.v 24), (.v 25), (.v 26), (.v 27), (.v 28)] [(.v 12), (.v 13), (.v 14), (.v 15), (.v 16)] 60 1 34 0), (.db 34 (.cm .neq (.v 60) (.c 0))), (.call 17 [(.v 30), (.v 31), (.v 32), (.v 33), (.v 34), (.v 35), (.v 36), (.v 37), (.v 38), (.v 39)] [(.v 18), (.v 19), (.v 20), (.v 21), (.v 22)] 61 1 35 0), (.db 35 (.cm .neq (.v 61) (.c 0))), (.db 36 (.or (.v 34) (.v 35))), (.call 17 [(.v 40), (.v 41), (.v 42), (.v 43), (.v 44), (.v 45), (.v 46), (.v 47), (.v 48), (.v 49)] [(.v 23), (.v 24), (.v 25), (.v 26), (.v 27)] 62 1 37 0), (.db 37 (.cm .neq (.v 62) (.c 0))), (.db 38 (.or (.v 36) (.v 37))), (.call 17 [(.v 50), (.v 51), (.v 52), (.v 53), (.v 54), (.v 55), (.v 56), (.v 57), (.v 58), (.v 59)] [(.v 29), (.v 30), (.v 31), (.v 32), (.v 33)] 63 1 39 0), (.db 39 (.cm .neq (.v 63) (.c 0))), (.db 40 (.or (.v 38) (.v 39))), (.di 64 (.ar .add .u8 (.v 4) (.c 2))), (.db 41 (.cm .gtr (.v 51) (.v 64))), (.db 42 (.or (.v 40) (.v 41))), (.di 65 (.ar .add .u8 (.v 51) (.c 2))), (.db 43 (.cm .gtr (.v 4) (.v 65))), (.db 44 (.or (.v 42) (.v 43))), (.db 45 (.cm .geq (.v 2) (.c 0))), (.ob [((.v 7), true), ((.v 44), false)] (.v 45)), (.db 46 (.cm .lss (.v 2) (.v 1))), (.ob [((.v 7), true), ((.v 44), false)] (.v 46)), (.di 66 (.get (.v 0) (.v 2) 1 0)), (.di 67 (.ar .shr .u16 (.v 66) (.c 10))), (.di 68 (.ar .rem .u16 (.v 67) (.c 4))), (.db 47 (.cm .eql (.v 68) (.c 0))), (.db 48 (.cm .eql (.v 68) (.c 1))), (.db 49 (.cm .eql (.v 68) (.c 2))), (.db 50 (.cm .eql (.v 68) (.c 3))), (.db 51 (.ite (.v 50) (.v 29) (.v 0))), (.db 52 (.ite (.v 50) (.v 30) (.v 1))), (.db 53 (.ite (.v 50) (.v 31) (.v 2))), (.di 69 (.ite (.v 50) (.v 50) (.v 3))), (.di 70 (.ite (.v 50) (.v 51) (.v 4))), (.di 71 (.ite (.v 50) (.v 52) (.v 5))), (.di 72 (.ite (.v 50) (.v 53) (.v 6))), (.di 73 (.ite (.v 50) (.v 54) (.v 7))), (.di 74 (.ite (.v 50) (.v 55) (.v 8))), (.di 75 (.ite (.v 50) (.v 56) (.v 9))), (.db 54 (.ite (.v 50) (.v 32) (.v 3))), (.di 76 (.ite (.v 50) (.v 57) (.v 10))), (.di 77 (.ite (.v 50) (.v 58) (.v 11))), (.db 55 (.ite (.v 50) (.v 33) (.v 4))), (.di 78 (.ite (.v 50) (.v 59) (.v 12))), (.db 56 (.ite (.v 49) (.v 23) (.v 51))), (.db 57 (.ite (.v 49) (.v 24) (.v 52))), (.db 58 (.ite (.v 49) (.v 25) (.v 53))), (.di 79 (.ite (.v 49) (.v 40) (.v 69))), (.di 80 (.ite (.v 49) (.v 41) (.v 70))), (.di 81 (.ite (.v 49) (.v 42) (.v 71))), (.di 82 (.ite (.v 49) (.v 43) (.v 72))), (.di 83 (.ite (.v 49) (.v 44) (.v 73))), (.di 84 (.ite (.v 49) (.v 45) (.v 74))), (.di 85 (.ite (.v 49) (.v 46) (.v 75))), (.db 59 (.ite (.v 49) (.v 26) (.v 54))), (.di 86 (.ite (.v 49) (.v 47) (.v 76))), (.di 87 (.ite (.v 49) (.v 48) (.v 77))), (.db 60 (.ite (.v 49) (.v 27) (.v 55))), (.di 88 (.ite (.v 49) (.v 49) (.v 78))), (.db 61 (.ite (.v 48) (.v 18) (.v 56))), (.db 62 (.ite (.v 48) (.v 19) (.v 57))), (.db 63 (.ite (.v 48) (.v 20) (.v 58))), (.di 89 (.ite (.v 48) (.v 30) (.v 79))), (.di 90 (.ite (.v 48) (.v 31) (.v 80))), (.di 91 (.ite (.v 48) (.v 32) (.v 81))), (.di 92 (.ite (.v 48) (.v 33) (.v 82))), (.di 93 (.ite (.v 48) (.v 34) (.v 83))), (.di 94 (.ite (.v 48) (.v 35) (.v 84))), (.di 95 (.ite (.v 48) (.v 36) (.v 85))), (.db 64 (.ite (.v 48) (.v 21) (.v 59))), (.di 96 (.ite (.v 48) (.v 37) (.v 86))), (.di 97 (.ite (.v 48) (.v 38) (.v 87))), (.db 65 (.ite (.v 48) (.v 22) (.v 60))), (.di 98 (.ite (.v 48) (.v 39) (.v 88))), (.db 66 (.ite (.v 47) (.v 12) (.v 61))), (.db 67 (.ite (.v 47) (.v 13) (.v 62))), (.db 68 (.ite (.v 47) (.v 14) (.v 63))), (.di 99 (.ite (.v 47) (.v 19) (.v 89))), (.di 100 (.ite (.v 47) (.v 20) (.v 90))), (.di 101 (.ite (.v 47) (.v 21) (.v 91))), (.di 102 (.ite (.v 47) (.v 22) (.v 92))), (.di 103 (.ite (.v 47) (.v 23) (.v 93))), (.di 104 (.ite (.v 47) (.v 24) (.v 94))), (.di 105 (.ite (.v 47) (.v 25) (.v 95))), (.db 69 (.ite (.v 47) (.v 15) (.v 64))), (.di 106 (.ite (.v 47) (.v 26) (.v 96))), (.di 107 (.ite (.v 47) (.v 27) (.v 97))), (.db 70 (.ite (.v 47) (.v 16) (.v 65))), (.di 108 (.ite (.v 47) (.v 28) (.v 98))), (.db 71 (.not (.v 44))), (.di 109 (.ar .add .i64 (.v 2) (.c 1))), (.db 72 (.not (.v 44))), (.db 73 (.not (.v 44))), (.db 74 (.and (.v 7) (.v 73))), (.db 75 (.and (.v 7) (.v 44))), (.db 76 (.not (.v 7)))] [(.v 0), (.v 1), (.v 109), (.v 99), (.v 100), (.v 101), (.v 102), (.v 103), (.v 104), (.v 105), (.v 106), (.v 107), (.v 108)] [(.v 74), (.v 66), (.v 67), (.v 68), (.v 69), (.v 70), (.v 75), (.v 76)]) }
def l4 : List (Nat × LAnn) := [(5, L100400)]
theorem k4 : fnX Tryd.prog (tabS T10) gl (ctlL Tryd.f4 gl s4 l4) Tryd.f4 s4 = some S4 := by kernel_rfl
noncomputable def F4 : Fun := S4.run (lpF (l4.map (·.2)) (tabF T10)) true
theorem x4 : AllOk Tryd.prog (lpF (l4.map (·.2)) (tabF T10)) gl (tabS T10) := (AllOk.loops (l := l4.map (·.2)) A10 (by kernel_rfl))
theorem y4 : LoopsOk (lpF (l4.map (·.2)) (tabF T10)) (ctlL Tryd.f4 gl s4 l4) := (LoopsOk.of (fn := Tryd.f4) (gl := gl) (s := s4) (l := l4) (by kernel_rfl))
theorem z4 : (wsEm S4.em (argI s4.args) (argB s4.args) && shOk s4 && s4.pre) = true := by kernel_rfl
theorem d4 : Contract Tryd.prog gl 4 s4 (S4.run (lpF (l4.map (·.2)) (tabF T10)) s4.pre) := contract_pre x4 Tryd.func4 y4 k4 z4
theorem c4 : Contract Tryd.prog gl 4 s4 F4 := d4
theorem call4 : ∀ args w, (callFunc 4 args).run Tryd.prog w = .ok (.enter 4 args) w := callable_of Tryd.func4 (by kernel_rfl) (by kernel_rfl)
noncomputable def e4 : Nat × Sum × Fun := (4, s4, F4)
noncomputable def T11 : List (Nat × Sum × Fun) := e4 :: T10
theorem A11 : AllOk Tryd.prog (tabF T11) gl (tabS T11) := AllOk.cons (s := e4.2.1) c4 call4 (fun S h => by cases h) A10
end Go.Proofs.YtoempcgniokpiaaDoor.Do
