/-
  The walks of tone's laws (lengths): what each function answers, by the executor. WRITTEN BY PROGRAM (wip/dev/Drv.lean). No condition.
-/
import Derived.Test.YtoempcgniokpiaaDoorSxU
import Derived.Test.YtoempcgniokpiaaDoorProg
set_option linter.unusedVariables false
namespace Go.Proofs.YtoempcgniokpiaaDoor.Ta
open Go Go.Proofs.YtoempcgniokpiaaDoor.Sx

def longs : List Int := [10, 254, 20, 2, 40, 4, 80, 6, 160, 8, 60, 10, 14, 12, 26, 14, 12, 16, 24, 18, 48, 20, 96, 22, 192, 24, 72, 26, 16, 28, 32, 30]
def rates : List Int := [4, 8, 16, 32, 64, 96, 128, 160, 202, 254, 380, 508, 762, 1016, 2034, 4068]
def gl : Gl := [[], [], longs.map (Value.int .u8)]
noncomputable def T0 : List (Nat × Sum × Fun) := []
theorem A0 : AllOk Tryd.prog (tabF T0) gl (tabS T0) := AllOk.nil
/-! seepage/tone.env -/
def s78 : Sum := { args := [(.val true [.bool, .bool, .bool, (.int .u8), (.int .u8), (.int .u8)])], tup := false, res := [(false, [.bool])], pre := false }
def S78 : Smry := (.mk [(.di 3 (.mx (.v 0) (.v 1))), (.di 4 (.mx (.v 3) (.v 2))), (.db 3 (.cm .lss (.v 4) (.c 16)))] [] [(.v 3)])
theorem k78 : fnX Tryd.prog (tabS T0) gl (ctlOf Tryd.f78 gl s78) Tryd.f78 s78 = some S78 := by kernel_rfl
noncomputable def F78 : Fun := S78.run (tabF T0) false
theorem x78 : AllOk Tryd.prog (tabF T0) gl (tabS T0) := A0
theorem y78 : LoopsOk (tabF T0) (ctlOf Tryd.f78 gl s78) := (LoopsOk.nil rfl)
theorem z78 : (wsEm S78.em (argI s78.args) (argB s78.args) && shOk s78 && noOb S78.em) = true := by kernel_rfl
theorem d78 : Contract Tryd.prog gl 78 s78 (S78.run (tabF T0) s78.pre) := contract_of x78 Tryd.func78 y78 k78 z78
theorem c78 : Contract Tryd.prog gl 78 s78 F78 := d78
theorem call78 : ∀ args w, (callFunc 78 args).run Tryd.prog w = .ok (.enter 78 args) w := callable_of Tryd.func78 (by kernel_rfl) (by kernel_rfl)
noncomputable def e78 : Nat × Sum × Fun := (78, withInl s78 S78, F78)
noncomputable def T1 : List (Nat × Sum × Fun) := e78 :: T0
theorem A1 : AllOk Tryd.prog (tabF T1) gl (tabS T1) := AllOk.cons (s := e78.2.1) c78 call78 (fun S h => by cases h; exact ⟨rfl, fun _ _ => rfl⟩) A0
/-! seepage/tone.pulse -/
def s68 : Sum := { args := [(.val true [.bool, .bool, .bool, .bool, (.int .u8), (.int .u8), (.int .u8), .bool, .bool, (.int .u8), (.int .u8), (.int .u8), (.int .u16), (.int .u16), .bool, .bool, .bool, (.int .u8), (.int .u8), (.int .u8)])], tup := false, res := [(false, [.bool])], pre := false }
def S68 : Smry := (.mk [(.di 11 (.mx (.v 0) (.v 1))), (.di 12 (.mx (.v 11) (.v 2))), (.db 9 (.cm .lss (.v 12) (.c 16))), (.db 10 (.cm .lss (.v 4) (.c 4))), (.db 11 (.and (.v 9) (.v 10))), (.di 13 (.mx (.v 5) (.v 8))), (.di 14 (.mx (.v 13) (.v 9))), (.di 15 (.mx (.v 14) (.v 10))), (.db 12 (.cm .lss (.v 15) (.c 8))), (.db 13 (.and (.v 11) (.v 12))), (.di 16 (.mx (.v 6) (.v 7))), (.db 14 (.cm .lss (.v 16) (.c 2048))), (.db 15 (.and (.v 13) (.v 14)))] [] [(.v 15)])
theorem k68 : fnX Tryd.prog (tabS T1) gl (ctlOf Tryd.f68 gl s68) Tryd.f68 s68 = some S68 := by kernel_rfl
noncomputable def F68 : Fun := S68.run (tabF T1) false
theorem x68 : AllOk Tryd.prog (tabF T1) gl (tabS T1) := A1
theorem y68 : LoopsOk (tabF T1) (ctlOf Tryd.f68 gl s68) := (LoopsOk.nil rfl)
theorem z68 : (wsEm S68.em (argI s68.args) (argB s68.args) && shOk s68 && noOb S68.em) = true := by kernel_rfl
theorem d68 : Contract Tryd.prog gl 68 s68 (S68.run (tabF T1) s68.pre) := contract_of x68 Tryd.func68 y68 k68 z68
theorem c68 : Contract Tryd.prog gl 68 s68 F68 := d68
theorem call68 : ∀ args w, (callFunc 68 args).run Tryd.prog w = .ok (.enter 68 args) w := callable_of Tryd.func68 (by kernel_rfl) (by kernel_rfl)
noncomputable def e68 : Nat × Sum × Fun := (68, s68, F68)
noncomputable def T2 : List (Nat × Sum × Fun) := e68 :: T1
theorem A2 : AllOk Tryd.prog (tabF T2) gl (tabS T2) := AllOk.cons (s := e68.2.1) c68 call68 (fun S h => by cases h) A1
/-! seepage/tone.triangle -/
def s69 : Sum := { args := [(.val true [.bool, .bool, (.int .u8), (.int .u8), (.int .u8), .bool, (.int .u8), (.int .u16), (.int .u16)])], tup := false, res := [(false, [.bool])], pre := false }
def S69 : Smry := (.mk [(.di 6 (.mx (.v 1) (.v 2))), (.db 3 (.cm .lss (.v 6) (.c 128))), (.db 4 (.cm .lss (.v 3) (.c 32))), (.db 5 (.and (.v 3) (.v 4))), (.di 7 (.mx (.v 4) (.v 5))), (.db 6 (.cm .lss (.v 7) (.c 2048))), (.db 7 (.and (.v 5) (.v 6)))] [] [(.v 7)])
theorem k69 : fnX Tryd.prog (tabS T2) gl (ctlOf Tryd.f69 gl s69) Tryd.f69 s69 = some S69 := by kernel_rfl
noncomputable def F69 : Fun := S69.run (tabF T2) false
theorem x69 : AllOk Tryd.prog (tabF T2) gl (tabS T2) := A2
theorem y69 : LoopsOk (tabF T2) (ctlOf Tryd.f69 gl s69) := (LoopsOk.nil rfl)
theorem z69 : (wsEm S69.em (argI s69.args) (argB s69.args) && shOk s69 && noOb S69.em) = true := by kernel_rfl
theorem d69 : Contract Tryd.prog gl 69 s69 (S69.run (tabF T2) s69.pre) := contract_of x69 Tryd.func69 y69 k69 z69
theorem c69 : Contract Tryd.prog gl 69 s69 F69 := d69
theorem call69 : ∀ args w, (callFunc 69 args).run Tryd.prog w = .ok (.enter 69 args) w := callable_of Tryd.func69 (by kernel_rfl) (by kernel_rfl)
noncomputable def e69 : Nat × Sum × Fun := (69, s69, F69)
noncomputable def T3 : List (Nat × Sum × Fun) := e69 :: T2
theorem A3 : AllOk Tryd.prog (tabF T3) gl (tabS T3) := AllOk.cons (s := e69.2.1) c69 call69 (fun S h => by cases h) A2
/-! seepage/tone.noise -/
def s70 : Sum := { args := [(.val true [.bool, .bool, .bool, (.int .u8), (.int .u8), (.int .u8), .bool, .bool, (.int .u8), .bool, (.int .u8), (.int .u16), (.int .u16)])], tup := false, res := [(false, [.bool])], pre := false }
def S70 : Smry := (.mk [(.di 7 (.mx (.v 0) (.v 1))), (.di 8 (.mx (.v 7) (.v 2))), (.db 6 (.cm .lss (.v 8) (.c 16))), (.db 7 (.cm .lss (.v 4) (.c 16))), (.db 8 (.and (.v 6) (.v 7))), (.db 9 (.cm .lss (.v 5) (.c 4096))), (.db 10 (.and (.v 8) (.v 9))), (.db 11 (.cm .gtr (.v 6) (.c 0))), (.db 12 (.and (.v 10) (.v 11))), (.db 13 (.cm .lss (.v 6) (.c 32768))), (.db 14 (.and (.v 12) (.v 13)))] [] [(.v 14)])
theorem k70 : fnX Tryd.prog (tabS T3) gl (ctlOf Tryd.f70 gl s70) Tryd.f70 s70 = some S70 := by kernel_rfl
noncomputable def F70 : Fun := S70.run (tabF T3) false
theorem x70 : AllOk Tryd.prog (tabF T3) gl (tabS T3) := A3
theorem y70 : LoopsOk (tabF T3) (ctlOf Tryd.f70 gl s70) := (LoopsOk.nil rfl)
theorem z70 : (wsEm S70.em (argI s70.args) (argB s70.args) && shOk s70 && noOb S70.em) = true := by kernel_rfl
theorem d70 : Contract Tryd.prog gl 70 s70 (S70.run (tabF T3) s70.pre) := contract_of x70 Tryd.func70 y70 k70 z70
theorem c70 : Contract Tryd.prog gl 70 s70 F70 := d70
theorem call70 : ∀ args w, (callFunc 70 args).run Tryd.prog w = .ok (.enter 70 args) w := callable_of Tryd.func70 (by kernel_rfl) (by kernel_rfl)
noncomputable def e70 : Nat × Sum × Fun := (70, s70, F70)
noncomputable def T4 : List (Nat × Sum × Fun) := e70 :: T3
theorem A4 : AllOk Tryd.prog (tabF T4) gl (tabS T4) := AllOk.cons (s := e70.2.1) c70 call70 (fun S h => by cases h) A3
/-! seepage/tone.Check -/
def s30 : Sum := { args := [(.val true [.bool, .bool, .bool, .bool, (.int .u8), (.int .u8), (.int .u8), .bool, .bool, (.int .u8), (.int .u8), (.int .u8), (.int .u16), (.int .u16), .bool, .bool, .bool, (.int .u8), (.int .u8), (.int .u8)]), (.val true [.bool, .bool, (.int .u8), (.int .u8), (.int .u8), .bool, (.int .u8), (.int .u16), (.int .u16)]), (.val true [.bool, .bool, .bool, (.int .u8), (.int .u8), (.int .u8), .bool, .bool, (.int .u8), .bool, (.int .u8), (.int .u16), (.int .u16)])], tup := false, res := [(false, [(.int .i64)])], pre := false }
def S30 : Smry := (.mk [(.call 68 [(.v 0), (.v 1), (.v 2), (.v 3), (.v 4), (.v 5), (.v 6), (.v 7), (.v 8), (.v 9), (.v 10)] [(.v 0), (.v 1), (.v 2), (.v 3), (.v 4), (.v 5), (.v 6), (.v 7), (.v 8)] 24 0 18 1), (.db 19 (.not (.v 18))), (.call 69 [(.v 11), (.v 12), (.v 13), (.v 14), (.v 15), (.v 16)] [(.v 9), (.v 10), (.v 11)] 24 0 20 1), (.db 21 (.not (.v 20))), (.db 22 (.or (.v 19) (.v 21))), (.call 70 [(.v 17), (.v 18), (.v 19), (.v 20), (.v 21), (.v 22), (.v 23)] [(.v 12), (.v 13), (.v 14), (.v 15), (.v 16), (.v 17)] 24 0 23 1), (.db 24 (.not (.v 23))), (.db 25 (.or (.v 22) (.v 24))), (.db 26 (.not (.v 25))), (.di 24 (.ite (.v 26) (.c 0) (.c 1)))] [(.v 24)] [])
theorem k30 : fnX Tryd.prog (tabS T4) gl (ctlOf Tryd.f30 gl s30) Tryd.f30 s30 = some S30 := by kernel_rfl
noncomputable def F30 : Fun := S30.run (tabF T4) false
theorem x30 : AllOk Tryd.prog (tabF T4) gl (tabS T4) := A4
theorem y30 : LoopsOk (tabF T4) (ctlOf Tryd.f30 gl s30) := (LoopsOk.nil rfl)
theorem z30 : (wsEm S30.em (argI s30.args) (argB s30.args) && shOk s30 && noOb S30.em) = true := by kernel_rfl
theorem d30 : Contract Tryd.prog gl 30 s30 (S30.run (tabF T4) s30.pre) := contract_of x30 Tryd.func30 y30 k30 z30
theorem c30 : Contract Tryd.prog gl 30 s30 F30 := d30
theorem call30 : ∀ args w, (callFunc 30 args).run Tryd.prog w = .ok (.enter 30 args) w := callable_of Tryd.func30 (by kernel_rfl) (by kernel_rfl)
noncomputable def e30 : Nat × Sum × Fun := (30, s30, F30)
noncomputable def T5 : List (Nat × Sum × Fun) := e30 :: T4
theorem A5 : AllOk Tryd.prog (tabF T5) gl (tabS T5) := AllOk.cons (s := e30.2.1) c30 call30 (fun S h => by cases h) A4
/-! seepage/seepageref18.env -/
def s77 : Sum := { args := [(.val true [.bool, .bool, .bool, (.int .u8), (.int .u8), (.int .u8)])], tup := false, res := [(false, [.bool])], pre := false }
def S77 : Smry := (.mk [(.db 3 (.cm .lss (.v 0) (.c 16))), (.db 4 (.cm .lss (.v 1) (.c 16))), (.db 5 (.and (.v 3) (.v 4))), (.db 6 (.cm .lss (.v 2) (.c 16))), (.db 7 (.and (.v 5) (.v 6)))] [] [(.v 7)])
theorem k77 : fnX Tryd.prog (tabS T5) gl (ctlOf Tryd.f77 gl s77) Tryd.f77 s77 = some S77 := by kernel_rfl
noncomputable def F77 : Fun := S77.run (tabF T5) false
theorem x77 : AllOk Tryd.prog (tabF T5) gl (tabS T5) := A5
theorem y77 : LoopsOk (tabF T5) (ctlOf Tryd.f77 gl s77) := (LoopsOk.nil rfl)
theorem z77 : (wsEm S77.em (argI s77.args) (argB s77.args) && shOk s77 && noOb S77.em) = true := by kernel_rfl
theorem d77 : Contract Tryd.prog gl 77 s77 (S77.run (tabF T5) s77.pre) := contract_of x77 Tryd.func77 y77 k77 z77
theorem c77 : Contract Tryd.prog gl 77 s77 F77 := d77
theorem call77 : ∀ args w, (callFunc 77 args).run Tryd.prog w = .ok (.enter 77 args) w := callable_of Tryd.func77 (by kernel_rfl) (by kernel_rfl)
noncomputable def e77 : Nat × Sum × Fun := (77, withInl s77 S77, F77)
noncomputable def T6 : List (Nat × Sum × Fun) := e77 :: T5
theorem A6 : AllOk Tryd.prog (tabF T6) gl (tabS T6) := AllOk.cons (s := e77.2.1) c77 call77 (fun S h => by cases h; exact ⟨rfl, fun _ _ => rfl⟩) A5
/-! seepage/seepageref18.Pulse -/
def s37 : Sum := { args := [(.val true [.bool, .bool, .bool, .bool, (.int .u8), (.int .u8), (.int .u8), .bool, .bool, (.int .u8), (.int .u8), (.int .u8), (.int .u16), (.int .u16), .bool, .bool, .bool, (.int .u8), (.int .u8), (.int .u8)])], tup := false, res := [(false, [.bool])], pre := false }
def S37 : Smry := (.mk [(.db 9 (.cm .lss (.v 0) (.c 16))), (.db 10 (.cm .lss (.v 1) (.c 16))), (.db 11 (.and (.v 9) (.v 10))), (.db 12 (.cm .lss (.v 2) (.c 16))), (.db 13 (.and (.v 11) (.v 12))), (.db 14 (.cm .lss (.v 4) (.c 4))), (.db 15 (.and (.v 13) (.v 14))), (.db 16 (.cm .lss (.v 5) (.c 8))), (.db 17 (.and (.v 15) (.v 16))), (.db 18 (.cm .lss (.v 8) (.c 8))), (.db 19 (.and (.v 17) (.v 18))), (.db 20 (.cm .lss (.v 9) (.c 8))), (.db 21 (.and (.v 19) (.v 20))), (.db 22 (.cm .lss (.v 10) (.c 8))), (.db 23 (.and (.v 21) (.v 22))), (.db 24 (.cm .lss (.v 6) (.c 2048))), (.db 25 (.and (.v 23) (.v 24))), (.db 26 (.cm .lss (.v 7) (.c 2048))), (.db 27 (.and (.v 25) (.v 26)))] [] [(.v 27)])
theorem k37 : fnX Tryd.prog (tabS T6) gl (ctlOf Tryd.f37 gl s37) Tryd.f37 s37 = some S37 := by kernel_rfl
noncomputable def F37 : Fun := S37.run (tabF T6) false
theorem x37 : AllOk Tryd.prog (tabF T6) gl (tabS T6) := A6
theorem y37 : LoopsOk (tabF T6) (ctlOf Tryd.f37 gl s37) := (LoopsOk.nil rfl)
theorem z37 : (wsEm S37.em (argI s37.args) (argB s37.args) && shOk s37 && noOb S37.em) = true := by kernel_rfl
theorem d37 : Contract Tryd.prog gl 37 s37 (S37.run (tabF T6) s37.pre) := contract_of x37 Tryd.func37 y37 k37 z37
theorem c37 : Contract Tryd.prog gl 37 s37 F37 := d37
theorem call37 : ∀ args w, (callFunc 37 args).run Tryd.prog w = .ok (.enter 37 args) w := callable_of Tryd.func37 (by kernel_rfl) (by kernel_rfl)
noncomputable def e37 : Nat × Sum × Fun := (37, s37, F37)
noncomputable def T7 : List (Nat × Sum × Fun) := e37 :: T6
theorem A7 : AllOk Tryd.prog (tabF T7) gl (tabS T7) := AllOk.cons (s := e37.2.1) c37 call37 (fun S h => by cases h) A6
/-! seepage/seepageref18.Triangle -/
def s38 : Sum := { args := [(.val true [.bool, .bool, (.int .u8), (.int .u8), (.int .u8), .bool, (.int .u8), (.int .u16), (.int .u16)])], tup := false, res := [(false, [.bool])], pre := false }
def S38 : Smry := (.mk [(.db 3 (.cm .lss (.v 1) (.c 128))), (.db 4 (.cm .lss (.v 2) (.c 128))), (.db 5 (.and (.v 3) (.v 4))), (.db 6 (.cm .lss (.v 3) (.c 32))), (.db 7 (.and (.v 5) (.v 6))), (.db 8 (.cm .lss (.v 4) (.c 2048))), (.db 9 (.and (.v 7) (.v 8))), (.db 10 (.cm .lss (.v 5) (.c 2048))), (.db 11 (.and (.v 9) (.v 10)))] [] [(.v 11)])
theorem k38 : fnX Tryd.prog (tabS T7) gl (ctlOf Tryd.f38 gl s38) Tryd.f38 s38 = some S38 := by kernel_rfl
noncomputable def F38 : Fun := S38.run (tabF T7) false
theorem x38 : AllOk Tryd.prog (tabF T7) gl (tabS T7) := A7
theorem y38 : LoopsOk (tabF T7) (ctlOf Tryd.f38 gl s38) := (LoopsOk.nil rfl)
theorem z38 : (wsEm S38.em (argI s38.args) (argB s38.args) && shOk s38 && noOb S38.em) = true := by kernel_rfl
theorem d38 : Contract Tryd.prog gl 38 s38 (S38.run (tabF T7) s38.pre) := contract_of x38 Tryd.func38 y38 k38 z38
theorem c38 : Contract Tryd.prog gl 38 s38 F38 := d38
theorem call38 : ∀ args w, (callFunc 38 args).run Tryd.prog w = .ok (.enter 38 args) w := callable_of Tryd.func38 (by kernel_rfl) (by kernel_rfl)
noncomputable def e38 : Nat × Sum × Fun := (38, s38, F38)
noncomputable def T8 : List (Nat × Sum × Fun) := e38 :: T7
theorem A8 : AllOk Tryd.prog (tabF T8) gl (tabS T8) := AllOk.cons (s := e38.2.1) c38 call38 (fun S h => by cases h) A7
/-! seepage/seepageref18.Noise -/
def s39 : Sum := { args := [(.val true [.bool, .bool, .bool, (.int .u8), (.int .u8), (.int .u8), .bool, .bool, (.int .u8), .bool, (.int .u8), (.int .u16), (.int .u16)])], tup := false, res := [(false, [.bool])], pre := false }
def S39 : Smry := (.mk [(.db 6 (.cm .lss (.v 0) (.c 16))), (.db 7 (.cm .lss (.v 1) (.c 16))), (.db 8 (.and (.v 6) (.v 7))), (.db 9 (.cm .lss (.v 2) (.c 16))), (.db 10 (.and (.v 8) (.v 9))), (.db 11 (.cm .lss (.v 4) (.c 16))), (.db 12 (.and (.v 10) (.v 11))), (.db 13 (.cm .lss (.v 5) (.c 4096))), (.db 14 (.and (.v 12) (.v 13))), (.db 15 (.cm .geq (.v 6) (.c 1))), (.db 16 (.and (.v 14) (.v 15))), (.db 17 (.cm .leq (.v 6) (.c 32767))), (.db 18 (.and (.v 16) (.v 17)))] [] [(.v 18)])
theorem k39 : fnX Tryd.prog (tabS T8) gl (ctlOf Tryd.f39 gl s39) Tryd.f39 s39 = some S39 := by kernel_rfl
noncomputable def F39 : Fun := S39.run (tabF T8) false
theorem x39 : AllOk Tryd.prog (tabF T8) gl (tabS T8) := A8
theorem y39 : LoopsOk (tabF T8) (ctlOf Tryd.f39 gl s39) := (LoopsOk.nil rfl)
theorem z39 : (wsEm S39.em (argI s39.args) (argB s39.args) && shOk s39 && noOb S39.em) = true := by kernel_rfl
theorem d39 : Contract Tryd.prog gl 39 s39 (S39.run (tabF T8) s39.pre) := contract_of x39 Tryd.func39 y39 k39 z39
theorem c39 : Contract Tryd.prog gl 39 s39 F39 := d39
theorem call39 : ∀ args w, (callFunc 39 args).run Tryd.prog w = .ok (.enter 39 args) w := callable_of Tryd.func39 (by kernel_rfl) (by kernel_rfl)
noncomputable def e39 : Nat × Sum × Fun := (39, s39, F39)
noncomputable def T9 : List (Nat × Sum × Fun) := e39 :: T8
theorem A9 : AllOk Tryd.prog (tabF T9) gl (tabS T9) := AllOk.cons (s := e39.2.1) c39 call39 (fun S h => by cases h) A8
/-! seepage/tone.EnvClock -/
def s40 : Sum := { args := [(.val true [.bool, .bool, .bool, (.int .u8), (.int .u8), (.int .u8)])], tup := false, res := [(true, [.bool, .bool, .bool, (.int .u8), (.int .u8), (.int .u8)])], pre := false }
def S40 : Smry := (.mk [(.di 3 (.mx (.v 0) (.v 1))), (.di 4 (.mx (.v 3) (.v 2))), (.db 3 (.cm .lss (.v 4) (.c 16))), (.db 4 (.not (.v 3))), (.db 5 (.cm .gtr (.v 1) (.c 0))), (.di 5 (.ar .sub .u8 (.v 1) (.c 1))), (.db 6 (.cm .gtr (.v 2) (.c 0))), (.di 6 (.ar .sub .u8 (.v 2) (.c 1))), (.di 7 (.ite (.v 0) (.c 15) (.v 2))), (.di 8 (.ite (.v 6) (.v 6) (.v 7))), (.di 9 (.ite (.v 5) (.v 5) (.v 0))), (.di 10 (.ite (.v 5) (.v 2) (.v 8))), (.db 7 (.ite (.v 2) (.c false) (.v 2))), (.di 11 (.ite (.v 2) (.v 0) (.v 9))), (.di 12 (.ite (.v 2) (.c 15) (.v 10))), (.db 8 (.ite (.v 4) (.v 2) (.v 7))), (.di 13 (.ite (.v 4) (.v 1) (.v 11))), (.di 14 (.ite (.v 4) (.v 2) (.v 12)))] [(.v 0), (.v 13), (.v 14)] [(.v 0), (.v 1), (.v 8)])
theorem k40 : fnX Tryd.prog (tabS T9) gl (ctlOf Tryd.f40 gl s40) Tryd.f40 s40 = some S40 := by kernel_rfl
noncomputable def F40 : Fun := S40.run (tabF T9) false
theorem x40 : AllOk Tryd.prog (tabF T9) gl (tabS T9) := A9
theorem y40 : LoopsOk (tabF T9) (ctlOf Tryd.f40 gl s40) := (LoopsOk.nil rfl)
theorem z40 : (wsEm S40.em (argI s40.args) (argB s40.args) && shOk s40 && noOb S40.em) = true := by kernel_rfl
theorem d40 : Contract Tryd.prog gl 40 s40 (S40.run (tabF T9) s40.pre) := contract_of x40 Tryd.func40 y40 k40 z40
theorem c40 : Contract Tryd.prog gl 40 s40 F40 := d40
theorem call40 : ∀ args w, (callFunc 40 args).run Tryd.prog w = .ok (.enter 40 args) w := callable_of Tryd.func40 (by kernel_rfl) (by kernel_rfl)
noncomputable def e40 : Nat × Sum × Fun := (40, s40, F40)
noncomputable def T10 : List (Nat × Sum × Fun) := e40 :: T9
theorem A10 : AllOk Tryd.prog (tabF T10) gl (tabS T10) := AllOk.cons (s := e40.2.1) c40 call40 (fun S h => by cases h) A9
/-! seepage/seepageref18.EnvClock -/
def s41 : Sum := { args := [(.val true [.bool, .bool, .bool, (.int .u8), (.int .u8), (.int .u8)])], tup := false, res := [(true, [.bool, .bool, .bool, (.int .u8), (.int .u8), (.int .u8)])], pre := false }
def S41 : Smry := (.mk [(.db 3 (.cm .lss (.v 0) (.c 16))), (.db 4 (.cm .lss (.v 1) (.c 16))), (.db 5 (.and (.v 3) (.v 4))), (.db 6 (.cm .lss (.v 2) (.c 16))), (.db 7 (.and (.v 5) (.v 6))), (.db 8 (.not (.v 7))), (.db 9 (.cm .neq (.v 1) (.c 0))), (.di 3 (.ar .sub .u8 (.v 1) (.c 1))), (.db 10 (.cm .neq (.v 2) (.c 0))), (.di 4 (.ar .sub .u8 (.v 2) (.c 1))), (.di 5 (.ite (.v 0) (.c 15) (.v 2))), (.di 6 (.ite (.v 10) (.v 4) (.v 5))), (.db 11 (.not (.v 9))), (.di 7 (.ite (.v 11) (.v 0) (.v 3))), (.di 8 (.ite (.v 11) (.v 6) (.v 2))), (.db 12 (.not (.v 2))), (.db 13 (.and (.v 12) (.v 2))), (.di 9 (.ite (.v 12) (.v 7) (.v 0))), (.di 10 (.ite (.v 12) (.v 8) (.c 15))), (.db 14 (.not (.v 8))), (.db 15 (.ite (.v 14) (.v 13) (.v 2))), (.di 11 (.ite (.v 14) (.v 9) (.v 1))), (.di 12 (.ite (.v 14) (.v 10) (.v 2)))] [(.v 0), (.v 11), (.v 12)] [(.v 0), (.v 1), (.v 15)])
theorem k41 : fnX Tryd.prog (tabS T10) gl (ctlOf Tryd.f41 gl s41) Tryd.f41 s41 = some S41 := by kernel_rfl
noncomputable def F41 : Fun := S41.run (tabF T10) false
theorem x41 : AllOk Tryd.prog (tabF T10) gl (tabS T10) := A10
theorem y41 : LoopsOk (tabF T10) (ctlOf Tryd.f41 gl s41) := (LoopsOk.nil rfl)
theorem z41 : (wsEm S41.em (argI s41.args) (argB s41.args) && shOk s41 && noOb S41.em) = true := by kernel_rfl
theorem d41 : Contract Tryd.prog gl 41 s41 (S41.run (tabF T10) s41.pre) := contract_of x41 Tryd.func41 y41 k41 z41
theorem c41 : Contract Tryd.prog gl 41 s41 F41 := d41
theorem call41 : ∀ args w, (callFunc 41 args).run Tryd.prog w = .ok (.enter 41 args) w := callable_of Tryd.func41 (by kernel_rfl) (by kernel_rfl)
noncomputable def e41 : Nat × Sum × Fun := (41, s41, F41)
noncomputable def T11 : List (Nat × Sum × Fun) := e41 :: T10
theorem A11 : AllOk Tryd.prog (tabF T11) gl (tabS T11) := AllOk.cons (s := e41.2.1) c41 call41 (fun S h => by cases h) A10
/-! seepage/tone.LongClock -/
def s42 : Sum := { args := [(.val true [.bool, .bool, (.int .u8)])], tup := false, res := [(true, [.bool, .bool, (.int .u8)])], pre := false }
def S42 : Smry := (.mk [(.db 2 (.cm .gtr (.v 0) (.c 0))), (.db 3 (.not (.v 0))), (.db 4 (.and (.v 2) (.v 3))), (.di 1 (.ar .sub .u8 (.v 0) (.c 1))), (.di 2 (.ite (.v 4) (.v 1) (.v 0)))] [(.v 2)] [(.v 0), (.v 1)])
theorem k42 : fnX Tryd.prog (tabS T11) gl (ctlOf Tryd.f42 gl s42) Tryd.f42 s42 = some S42 := by kernel_rfl
noncomputable def F42 : Fun := S42.run (tabF T11) false
theorem x42 : AllOk Tryd.prog (tabF T11) gl (tabS T11) := A11
theorem y42 : LoopsOk (tabF T11) (ctlOf Tryd.f42 gl s42) := (LoopsOk.nil rfl)
theorem z42 : (wsEm S42.em (argI s42.args) (argB s42.args) && shOk s42 && noOb S42.em) = true := by kernel_rfl
theorem d42 : Contract Tryd.prog gl 42 s42 (S42.run (tabF T11) s42.pre) := contract_of x42 Tryd.func42 y42 k42 z42
theorem c42 : Contract Tryd.prog gl 42 s42 F42 := d42
theorem call42 : ∀ args w, (callFunc 42 args).run Tryd.prog w = .ok (.enter 42 args) w := callable_of Tryd.func42 (by kernel_rfl) (by kernel_rfl)
noncomputable def e42 : Nat × Sum × Fun := (42, s42, F42)
noncomputable def T12 : List (Nat × Sum × Fun) := e42 :: T11
theorem A12 : AllOk Tryd.prog (tabF T12) gl (tabS T12) := AllOk.cons (s := e42.2.1) c42 call42 (fun S h => by cases h) A11
/-! seepage/seepageref18.LongClock -/
def s43 : Sum := { args := [(.val true [.bool, .bool, (.int .u8)])], tup := false, res := [(true, [.bool, .bool, (.int .u8)])], pre := false }
def S43 : Smry := (.mk [(.db 2 (.not (.v 0))), (.db 3 (.cm .neq (.v 0) (.c 0))), (.db 4 (.and (.v 2) (.v 3))), (.di 1 (.ar .sub .u8 (.v 0) (.c 1))), (.di 2 (.ite (.v 4) (.v 1) (.v 0)))] [(.v 2)] [(.v 0), (.v 1)])
theorem k43 : fnX Tryd.prog (tabS T12) gl (ctlOf Tryd.f43 gl s43) Tryd.f43 s43 = some S43 := by kernel_rfl
noncomputable def F43 : Fun := S43.run (tabF T12) false
theorem x43 : AllOk Tryd.prog (tabF T12) gl (tabS T12) := A12
theorem y43 : LoopsOk (tabF T12) (ctlOf Tryd.f43 gl s43) := (LoopsOk.nil rfl)
theorem z43 : (wsEm S43.em (argI s43.args) (argB s43.args) && shOk s43 && noOb S43.em) = true := by kernel_rfl
theorem d43 : Contract Tryd.prog gl 43 s43 (S43.run (tabF T12) s43.pre) := contract_of x43 Tryd.func43 y43 k43 z43
theorem c43 : Contract Tryd.prog gl 43 s43 F43 := d43
theorem call43 : ∀ args w, (callFunc 43 args).run Tryd.prog w = .ok (.enter 43 args) w := callable_of Tryd.func43 (by kernel_rfl) (by kernel_rfl)
noncomputable def e43 : Nat × Sum × Fun := (43, s43, F43)
noncomputable def T13 : List (Nat × Sum × Fun) := e43 :: T12
theorem A13 : AllOk Tryd.prog (tabF T13) gl (tabS T13) := AllOk.cons (s := e43.2.1) c43 call43 (fun S h => by cases h) A12
/-! seepage/tone.LongOn -/
def s33 : Sum := { args := [(.val true [.bool, .bool, (.int .u8)]), (.val false [.bool])], tup := false, res := [(true, [.bool, .bool, (.int .u8)])], pre := false }
def S33 : Smry := (.mk [(.db 3 (.not (.v 2))), (.di 1 (.ite (.v 3) (.c 0) (.v 0)))] [(.v 1)] [(.v 0), (.v 2)])
theorem k33 : fnX Tryd.prog (tabS T13) gl (ctlOf Tryd.f33 gl s33) Tryd.f33 s33 = some S33 := by kernel_rfl
noncomputable def F33 : Fun := S33.run (tabF T13) false
theorem x33 : AllOk Tryd.prog (tabF T13) gl (tabS T13) := A13
theorem y33 : LoopsOk (tabF T13) (ctlOf Tryd.f33 gl s33) := (LoopsOk.nil rfl)
theorem z33 : (wsEm S33.em (argI s33.args) (argB s33.args) && shOk s33 && noOb S33.em) = true := by kernel_rfl
theorem d33 : Contract Tryd.prog gl 33 s33 (S33.run (tabF T13) s33.pre) := contract_of x33 Tryd.func33 y33 k33 z33
theorem c33 : Contract Tryd.prog gl 33 s33 F33 := d33
theorem call33 : ∀ args w, (callFunc 33 args).run Tryd.prog w = .ok (.enter 33 args) w := callable_of Tryd.func33 (by kernel_rfl) (by kernel_rfl)
noncomputable def e33 : Nat × Sum × Fun := (33, s33, F33)
noncomputable def T14 : List (Nat × Sum × Fun) := e33 :: T13
theorem A14 : AllOk Tryd.prog (tabF T14) gl (tabS T14) := AllOk.cons (s := e33.2.1) c33 call33 (fun S h => by cases h) A13
/-! seepage/seepageref18.LongOn -/
def s44 : Sum := { args := [(.val true [.bool, .bool, (.int .u8)]), (.val false [.bool])], tup := false, res := [(true, [.bool, .bool, (.int .u8)])], pre := false }
def S44 : Smry := (.mk [(.db 3 (.not (.v 2))), (.db 4 (.not (.v 3))), (.di 1 (.ite (.v 4) (.v 0) (.c 0)))] [(.v 1)] [(.v 0), (.v 4)])
theorem k44 : fnX Tryd.prog (tabS T14) gl (ctlOf Tryd.f44 gl s44) Tryd.f44 s44 = some S44 := by kernel_rfl
noncomputable def F44 : Fun := S44.run (tabF T14) false
theorem x44 : AllOk Tryd.prog (tabF T14) gl (tabS T14) := A14
theorem y44 : LoopsOk (tabF T14) (ctlOf Tryd.f44 gl s44) := (LoopsOk.nil rfl)
theorem z44 : (wsEm S44.em (argI s44.args) (argB s44.args) && shOk s44 && noOb S44.em) = true := by kernel_rfl
theorem d44 : Contract Tryd.prog gl 44 s44 (S44.run (tabF T14) s44.pre) := contract_of x44 Tryd.func44 y44 k44 z44
theorem c44 : Contract Tryd.prog gl 44 s44 F44 := d44
theorem call44 : ∀ args w, (callFunc 44 args).run Tryd.prog w = .ok (.enter 44 args) w := callable_of Tryd.func44 (by kernel_rfl) (by kernel_rfl)
noncomputable def e44 : Nat × Sum × Fun := (44, s44, F44)
noncomputable def T15 : List (Nat × Sum × Fun) := e44 :: T14
theorem A15 : AllOk Tryd.prog (tabF T15) gl (tabS T15) := AllOk.cons (s := e44.2.1) c44 call44 (fun S h => by cases h) A14
/-! seepage/tone.NoiseNew -/
def s45 : Sum := { args := [], tup := false, res := [(true, [.bool, .bool, .bool, (.int .u8), (.int .u8), (.int .u8), .bool, .bool, (.int .u8), .bool, (.int .u8), (.int .u16), (.int .u16)])], pre := false }
def S45 : Smry := (.mk [] [(.c 0), (.c 0), (.c 0), (.c 0), (.c 0), (.c 0), (.c 1)] [(.c false), (.c false), (.c false), (.c false), (.c false), (.c false)])
theorem k45 : fnX Tryd.prog (tabS T15) gl (ctlOf Tryd.f45 gl s45) Tryd.f45 s45 = some S45 := by kernel_rfl
noncomputable def F45 : Fun := S45.run (tabF T15) false
theorem x45 : AllOk Tryd.prog (tabF T15) gl (tabS T15) := A15
theorem y45 : LoopsOk (tabF T15) (ctlOf Tryd.f45 gl s45) := (LoopsOk.nil rfl)
theorem z45 : (wsEm S45.em (argI s45.args) (argB s45.args) && shOk s45 && noOb S45.em) = true := by kernel_rfl
theorem d45 : Contract Tryd.prog gl 45 s45 (S45.run (tabF T15) s45.pre) := contract_of x45 Tryd.func45 y45 k45 z45
theorem c45 : Contract Tryd.prog gl 45 s45 F45 := d45
theorem call45 : ∀ args w, (callFunc 45 args).run Tryd.prog w = .ok (.enter 45 args) w := callable_of Tryd.func45 (by kernel_rfl) (by kernel_rfl)
noncomputable def e45 : Nat × Sum × Fun := (45, s45, F45)
noncomputable def T16 : List (Nat × Sum × Fun) := e45 :: T15
theorem A16 : AllOk Tryd.prog (tabF T16) gl (tabS T16) := AllOk.cons (s := e45.2.1) c45 call45 (fun S h => by cases h) A15
/-! seepage/tone.written -/
def s71 : Sum := { args := [(.ptr [.bool, .bool, .bool, (.int .u8), (.int .u8), (.int .u8)]), (.ptr [.bool, .bool, (.int .u8)]), (.val false [(.int .u8)])], tup := true, res := [], pre := false }
def S71 : Smry := (.mk [(.di 5 (.ar .and .u8 (.v 4) (.c 32))), (.db 5 (.cm .gtr (.v 5) (.c 0))), (.di 6 (.ar .and .u8 (.v 4) (.c 16))), (.db 6 (.cm .gtr (.v 6) (.c 0))), (.di 7 (.ar .and .u8 (.v 4) (.c 15)))] [(.v 7), (.v 1), (.v 2), (.v 3)] [(.v 5), (.v 6), (.v 2), (.v 5), (.v 4)])
theorem k71 : fnX Tryd.prog (tabS T16) gl (ctlOf Tryd.f71 gl s71) Tryd.f71 s71 = some S71 := by kernel_rfl
noncomputable def F71 : Fun := S71.run (tabF T16) false
theorem x71 : AllOk Tryd.prog (tabF T16) gl (tabS T16) := A16
theorem y71 : LoopsOk (tabF T16) (ctlOf Tryd.f71 gl s71) := (LoopsOk.nil rfl)
theorem z71 : (wsEm S71.em (argI s71.args) (argB s71.args) && shOk s71 && noOb S71.em) = true := by kernel_rfl
theorem d71 : Contract Tryd.prog gl 71 s71 (S71.run (tabF T16) s71.pre) := contract_of x71 Tryd.func71 y71 k71 z71
theorem c71 : Contract Tryd.prog gl 71 s71 F71 := d71
theorem call71 : ∀ args w, (callFunc 71 args).run Tryd.prog w = .ok (.enter 71 args) w := callable_of Tryd.func71 (by kernel_rfl) (by kernel_rfl)
noncomputable def e71 : Nat × Sum × Fun := (71, withInl s71 S71, F71)
noncomputable def T17 : List (Nat × Sum × Fun) := e71 :: T16
theorem A17 : AllOk Tryd.prog (tabF T17) gl (tabS T17) := AllOk.cons (s := e71.2.1) c71 call71 (fun S h => by cases h; exact ⟨rfl, fun _ _ => rfl⟩) A16
/-! seepage/tone.period -/
def s72 : Sum := { args := [(.ptr [(.int .u16)]), (.val false [(.int .i64)]), (.val false [(.int .u8)])], tup := true, res := [], pre := false }
def S72 : Smry := (.mk [(.db 0 (.cm .eql (.v 1) (.c 2))), (.di 3 (.ar .and .u16 (.v 0) (.c 1792))), (.di 4 (.cv .u16 (.v 2))), (.di 5 (.ar .or .u16 (.v 3) (.v 4))), (.di 6 (.ar .and .u16 (.v 0) (.c 255))), (.di 7 (.ar .and .u8 (.v 2) (.c 7))), (.di 8 (.cv .u16 (.v 7))), (.di 9 (.ar .shl .u16 (.v 8) (.c 8))), (.di 10 (.ar .or .u16 (.v 6) (.v 9))), (.di 11 (.ite (.v 0) (.v 5) (.v 10)))] [(.v 11)] [])
theorem k72 : fnX Tryd.prog (tabS T17) gl (ctlOf Tryd.f72 gl s72) Tryd.f72 s72 = some S72 := by kernel_rfl
noncomputable def F72 : Fun := S72.run (tabF T17) false
theorem x72 : AllOk Tryd.prog (tabF T17) gl (tabS T17) := A17
theorem y72 : LoopsOk (tabF T17) (ctlOf Tryd.f72 gl s72) := (LoopsOk.nil rfl)
theorem z72 : (wsEm S72.em (argI s72.args) (argB s72.args) && shOk s72 && noOb S72.em) = true := by kernel_rfl
theorem d72 : Contract Tryd.prog gl 72 s72 (S72.run (tabF T17) s72.pre) := contract_of x72 Tryd.func72 y72 k72 z72
theorem c72 : Contract Tryd.prog gl 72 s72 F72 := d72
theorem call72 : ∀ args w, (callFunc 72 args).run Tryd.prog w = .ok (.enter 72 args) w := callable_of Tryd.func72 (by kernel_rfl) (by kernel_rfl)
noncomputable def e72 : Nat × Sum × Fun := (72, withInl s72 S72, F72)
noncomputable def T18 : List (Nat × Sum × Fun) := e72 :: T17
theorem A18 : AllOk Tryd.prog (tabF T18) gl (tabS T18) := AllOk.cons (s := e72.2.1) c72 call72 (fun S h => by cases h; exact ⟨rfl, fun _ _ => rfl⟩) A17
/-! seepage/tone.load -/
def s73 : Sum := { args := [(.ptr [.bool, .bool, (.int .u8)]), (.val false [(.int .u8)])], tup := true, res := [], pre := true }
def S73 : Smry := (.mk [(.di 2 (.ar .shr .u8 (.v 1) (.c 3))), (.db 2 (.cm .geq (.v 2) (.c 0))), (.ob [((.v 1), true)] (.v 2)), (.db 3 (.cm .lss (.v 2) (.c 32))), (.ob [((.v 1), true)] (.v 3)), (.di 3 (.tab [10, 254, 20, 2, 40, 4, 80, 6, 160, 8, 60, 10, 14, 12, 26, 14, 12, 16, 24, 18, 48, 20, 96, 22, 192, 24, 72, 26, 16, 28, 32, 30] (.v 2))), (.di 4 (.ite (.v 1) (.v 3) (.v 0)))] [(.v 4)] [(.v 0), (.v 1)])
theorem k73 : fnX Tryd.prog (tabS T18) gl (ctlOf Tryd.f73 gl s73) Tryd.f73 s73 = some S73 := by kernel_rfl
noncomputable def F73 : Fun := S73.run (tabF T18) true
theorem x73 : AllOk Tryd.prog (tabF T18) gl (tabS T18) := A18
theorem y73 : LoopsOk (tabF T18) (ctlOf Tryd.f73 gl s73) := (LoopsOk.nil rfl)
theorem z73 : (wsEm S73.em (argI s73.args) (argB s73.args) && shOk s73 && s73.pre) = true := by kernel_rfl
theorem d73 : Contract Tryd.prog gl 73 s73 (S73.run (tabF T18) s73.pre) := contract_pre x73 Tryd.func73 y73 k73 z73
theorem c73 : Contract Tryd.prog gl 73 s73 F73 := d73
theorem call73 : ∀ args w, (callFunc 73 args).run Tryd.prog w = .ok (.enter 73 args) w := callable_of Tryd.func73 (by kernel_rfl) (by kernel_rfl)
noncomputable def e73 : Nat × Sum × Fun := (73, s73, F73)
noncomputable def T19 : List (Nat × Sum × Fun) := e73 :: T18
theorem A19 : AllOk Tryd.prog (tabF T19) gl (tabS T19) := AllOk.cons (s := e73.2.1) c73 call73 (fun S h => by cases h) A18
/-! seepage/tone.PulseWrite -/
def s32 : Sum := { args := [(.val true [.bool, .bool, .bool, .bool, (.int .u8), (.int .u8), (.int .u8), .bool, .bool, (.int .u8), (.int .u8), (.int .u8), (.int .u16), (.int .u16), .bool, .bool, .bool, (.int .u8), (.int .u8), (.int .u8)]), (.val false [(.int .i64)]), (.val false [(.int .u8)])], tup := false, res := [(true, [.bool, .bool, .bool, .bool, (.int .u8), (.int .u8), (.int .u8), .bool, .bool, (.int .u8), (.int .u8), (.int .u8), (.int .u16), (.int .u16), .bool, .bool, .bool, (.int .u8), (.int .u8), (.int .u8)])], pre := true }
def S32 : Smry := (.mk [(.call 68 [(.v 0), (.v 1), (.v 2), (.v 3), (.v 4), (.v 5), (.v 6), (.v 7), (.v 8), (.v 9), (.v 10)] [(.v 0), (.v 1), (.v 2), (.v 3), (.v 4), (.v 5), (.v 6), (.v 7), (.v 8)] 13 0 9 1), (.db 10 (.not (.v 9))), (.db 11 (.cm .eql (.v 11) (.c 0))), (.di 13 (.ar .shr .u8 (.v 12) (.c 6))), (.di 14 (.ar .and .u8 (.v 12) (.c 32))), (.db 12 (.cm .gtr (.v 14) (.c 0))), (.di 15 (.ar .and .u8 (.v 12) (.c 16))), (.db 13 (.cm .gtr (.v 15) (.c 0))), (.di 16 (.ar .and .u8 (.v 12) (.c 15))), (.db 14 (.cm .eql (.v 11) (.c 1))), (.di 17 (.ar .and .u8 (.v 12) (.c 128))), (.db 15 (.cm .gtr (.v 17) (.c 0))), (.di 18 (.ar .shr .u8 (.v 12) (.c 4))), (.di 19 (.ar .and .u8 (.v 18) (.c 7))), (.di 20 (.ar .and .u8 (.v 12) (.c 8))), (.db 16 (.cm .gtr (.v 20) (.c 0))), (.di 21 (.ar .and .u8 (.v 12) (.c 7))), (.db 17 (.cm .eql (.v 11) (.c 2))), (.db 18 (.cm .eql (.v 11) (.c 3))), (.db 19 (.ite (.v 17) (.v 17) (.v 18))), (.db 20 (.cm .eql (.v 11) (.c 2))), (.di 22 (.ar .and .u16 (.v 6) (.c 1792))), (.di 23 (.cv .u16 (.v 12))), (.di 24 (.ar .or .u16 (.v 22) (.v 23))), (.di 25 (.ar .and .u16 (.v 6) (.c 255))), (.di 26 (.ar .and .u8 (.v 12) (.c 7))), (.di 27 (.cv .u16 (.v 26))), (.di 28 (.ar .shl .u16 (.v 27) (.c 8))), (.di 29 (.ar .or .u16 (.v 25) (.v 28))), (.di 30 (.ite (.v 20) (.v 24) (.v 29))), (.db 21 (.cm .eql (.v 11) (.c 3))), (.call 73 [(.v 3), (.v 12)] [(.v 4), (.v 5)] 31 1 22 3), (.ob [((.v 10), false), ((.v 11), false), ((.v 14), false), ((.v 19), true), ((.v 21), true)] (.v 22)), (.db 25 (.or (.v 21) (.v 3))), (.db 26 (.ite (.v 21) (.v 23) (.v 4))), (.db 27 (.ite (.v 21) (.v 24) (.v 5))), (.di 32 (.ite (.v 21) (.v 31) (.v 3))), (.di 33 (.ite (.v 21) (.c 0) (.v 5))), (.db 28 (.ite (.v 19) (.v 25) (.v 3))), (.db 29 (.ite (.v 19) (.v 26) (.v 4))), (.db 30 (.ite (.v 19) (.v 27) (.v 5))), (.di 34 (.ite (.v 19) (.v 32) (.v 3))), (.di 35 (.ite (.v 19) (.v 33) (.v 5))), (.di 36 (.ite (.v 19) (.v 30) (.v 6))), (.db 31 (.ite (.v 14) (.v 3) (.v 28))), (.db 32 (.ite (.v 14) (.v 4) (.v 29))), (.db 33 (.ite (.v 14) (.v 5) (.v 30))), (.di 37 (.ite (.v 14) (.v 3) (.v 34))), (.di 38 (.ite (.v 14) (.v 5) (.v 35))), (.di 39 (.ite (.v 14) (.v 6) (.v 36))), (.db 34 (.ite (.v 14) (.v 15) (.v 6))), (.db 35 (.ite (.v 14) (.v 16) (.v 7))), (.db 36 (.or (.v 14) (.v 8))), (.di 40 (.ite (.v 14) (.v 19) (.v 8))), (.di 41 (.ite (.v 14) (.v 21) (.v 9))), (.db 37 (.ite (.v 11) (.v 12) (.v 1))), (.db 38 (.ite (.v 11) (.v 13) (.v 2))), (.db 39 (.ite (.v 11) (.v 3) (.v 31))), (.di 42 (.ite (.v 11) (.v 16) (.v 0))), (.db 40 (.ite (.v 11) (.v 12) (.v 32))), (.db 41 (.ite (.v 11) (.v 5) (.v 33))), (.di 43 (.ite (.v 11) (.v 3) (.v 37))), (.di 44 (.ite (.v 11) (.v 13) (.v 4))), (.di 45 (.ite (.v 11) (.v 5) (.v 38))), (.di 46 (.ite (.v 11) (.v 6) (.v 39))), (.db 42 (.ite (.v 11) (.v 6) (.v 34))), (.db 43 (.ite (.v 11) (.v 7) (.v 35))), (.db 44 (.ite (.v 11) (.v 8) (.v 36))), (.di 47 (.ite (.v 11) (.v 8) (.v 40))), (.di 48 (.ite (.v 11) (.v 9) (.v 41))), (.db 45 (.not (.v 10))), (.db 46 (.ite (.v 45) (.v 37) (.v 1))), (.db 47 (.ite (.v 45) (.v 38) (.v 2))), (.db 48 (.ite (.v 45) (.v 39) (.v 3))), (.di 49 (.ite (.v 45) (.v 42) (.v 0))), (.db 49 (.ite (.v 45) (.v 40) (.v 4))), (.db 50 (.ite (.v 45) (.v 41) (.v 5))), (.di 50 (.ite (.v 45) (.v 43) (.v 3))), (.di 51 (.ite (.v 45) (.v 44) (.v 4))), (.di 52 (.ite (.v 45) (.v 45) (.v 5))), (.di 53 (.ite (.v 45) (.v 46) (.v 6))), (.db 51 (.ite (.v 45) (.v 42) (.v 6))), (.db 52 (.ite (.v 45) (.v 43) (.v 7))), (.db 53 (.ite (.v 45) (.v 44) (.v 8))), (.di 54 (.ite (.v 45) (.v 47) (.v 8))), (.di 55 (.ite (.v 45) (.v 48) (.v 9)))] [(.v 49), (.v 1), (.v 2), (.v 50), (.v 51), (.v 52), (.v 53), (.v 7), (.v 54), (.v 55), (.v 10)] [(.v 0), (.v 46), (.v 47), (.v 48), (.v 49), (.v 50), (.v 51), (.v 52), (.v 53)])
theorem k32 : fnX Tryd.prog (tabS T19) gl (ctlOf Tryd.f32 gl s32) Tryd.f32 s32 = some S32 := by kernel_rfl
noncomputable def F32 : Fun := S32.run (tabF T19) true
theorem x32 : AllOk Tryd.prog (tabF T19) gl (tabS T19) := A19
theorem y32 : LoopsOk (tabF T19) (ctlOf Tryd.f32 gl s32) := (LoopsOk.nil rfl)
theorem z32 : (wsEm S32.em (argI s32.args) (argB s32.args) && shOk s32 && s32.pre) = true := by kernel_rfl
theorem d32 : Contract Tryd.prog gl 32 s32 (S32.run (tabF T19) s32.pre) := contract_pre x32 Tryd.func32 y32 k32 z32
theorem c32 : Contract Tryd.prog gl 32 s32 F32 := d32
theorem call32 : ∀ args w, (callFunc 32 args).run Tryd.prog w = .ok (.enter 32 args) w := callable_of Tryd.func32 (by kernel_rfl) (by kernel_rfl)
noncomputable def e32 : Nat × Sum × Fun := (32, s32, F32)
noncomputable def T20 : List (Nat × Sum × Fun) := e32 :: T19
theorem A20 : AllOk Tryd.prog (tabF T20) gl (tabS T20) := AllOk.cons (s := e32.2.1) c32 call32 (fun S h => by cases h) A19
/-! seepage/tone.TriangleOut -/
def s58 : Sum := { args := [(.val true [.bool, .bool, (.int .u8), (.int .u8), (.int .u8), .bool, (.int .u8), (.int .u16), (.int .u16)])], tup := false, res := [(false, [(.int .u8)])], pre := false }
def S58 : Smry := (.mk [(.call 69 [(.v 0), (.v 1), (.v 2), (.v 3), (.v 4), (.v 5)] [(.v 0), (.v 1), (.v 2)] 6 0 3 1), (.db 4 (.not (.v 3))), (.db 5 (.cm .lss (.v 3) (.c 16))), (.di 6 (.ar .sub .u8 (.c 15) (.v 3))), (.db 6 (.or (.v 4) (.v 5))), (.di 7 (.ite (.v 4) (.c 0) (.v 6))), (.di 8 (.ar .sub .u8 (.v 3) (.c 16))), (.db 7 (.not (.v 4))), (.db 8 (.not (.v 5))), (.db 9 (.and (.v 7) (.v 8))), (.di 9 (.ite (.v 9) (.v 8) (.v 7)))] [(.v 9)] [])
theorem k58 : fnX Tryd.prog (tabS T20) gl (ctlOf Tryd.f58 gl s58) Tryd.f58 s58 = some S58 := by kernel_rfl
noncomputable def F58 : Fun := S58.run (tabF T20) false
theorem x58 : AllOk Tryd.prog (tabF T20) gl (tabS T20) := A20
theorem y58 : LoopsOk (tabF T20) (ctlOf Tryd.f58 gl s58) := (LoopsOk.nil rfl)
theorem z58 : (wsEm S58.em (argI s58.args) (argB s58.args) && shOk s58 && noOb S58.em) = true := by kernel_rfl
theorem d58 : Contract Tryd.prog gl 58 s58 (S58.run (tabF T20) s58.pre) := contract_of x58 Tryd.func58 y58 k58 z58
theorem c58 : Contract Tryd.prog gl 58 s58 F58 := d58
theorem call58 : ∀ args w, (callFunc 58 args).run Tryd.prog w = .ok (.enter 58 args) w := callable_of Tryd.func58 (by kernel_rfl) (by kernel_rfl)
noncomputable def e58 : Nat × Sum × Fun := (58, s58, F58)
noncomputable def T21 : List (Nat × Sum × Fun) := e58 :: T20
theorem A21 : AllOk Tryd.prog (tabF T21) gl (tabS T21) := AllOk.cons (s := e58.2.1) c58 call58 (fun S h => by cases h) A20
/-! seepage/tone.target -/
def s75 : Sum := { args := [(.val true [.bool, .bool, .bool, .bool, (.int .u8), (.int .u8), (.int .u8), .bool, .bool, (.int .u8), (.int .u8), (.int .u8), (.int .u16), (.int .u16), .bool, .bool, .bool, (.int .u8), (.int .u8), (.int .u8)])], tup := false, res := [(false, [(.int .u16)])], pre := true }
def S75 : Smry := (.mk [(.db 9 (.cm .geq (.v 9) (.c 0))), (.ob [] (.v 9)), (.di 11 (.ar .shr .u16 (.v 6) (.v 9))), (.db 10 (.not (.v 7))), (.di 12 (.ar .add .u16 (.v 6) (.v 11))), (.db 11 (.not (.v 0))), (.di 13 (.ar .add .u16 (.v 11) (.c 1))), (.di 14 (.ite (.v 11) (.v 13) (.v 11))), (.di 15 (.mn (.v 14) (.v 6))), (.di 16 (.ar .sub .u16 (.v 6) (.v 15))), (.db 12 (.not (.v 10))), (.di 17 (.ite (.v 12) (.v 16) (.v 12)))] [(.v 17)] [])
theorem k75 : fnX Tryd.prog (tabS T21) gl (ctlOf Tryd.f75 gl s75) Tryd.f75 s75 = some S75 := by kernel_rfl
noncomputable def F75 : Fun := S75.run (tabF T21) true
theorem x75 : AllOk Tryd.prog (tabF T21) gl (tabS T21) := A21
theorem y75 : LoopsOk (tabF T21) (ctlOf Tryd.f75 gl s75) := (LoopsOk.nil rfl)
theorem z75 : (wsEm S75.em (argI s75.args) (argB s75.args) && shOk s75 && s75.pre) = true := by kernel_rfl
theorem d75 : Contract Tryd.prog gl 75 s75 (S75.run (tabF T21) s75.pre) := contract_pre x75 Tryd.func75 y75 k75 z75
theorem c75 : Contract Tryd.prog gl 75 s75 F75 := d75
theorem call75 : ∀ args w, (callFunc 75 args).run Tryd.prog w = .ok (.enter 75 args) w := callable_of Tryd.func75 (by kernel_rfl) (by kernel_rfl)
noncomputable def e75 : Nat × Sum × Fun := (75, s75, F75)
noncomputable def T22 : List (Nat × Sum × Fun) := e75 :: T21
theorem A22 : AllOk Tryd.prog (tabF T22) gl (tabS T22) := AllOk.cons (s := e75.2.1) c75 call75 (fun S h => by cases h) A21
/-! seepage/tone.mute -/
def s74 : Sum := { args := [(.val true [.bool, .bool, .bool, .bool, (.int .u8), (.int .u8), (.int .u8), .bool, .bool, (.int .u8), (.int .u8), (.int .u8), (.int .u16), (.int .u16), .bool, .bool, .bool, (.int .u8), (.int .u8), (.int .u8)])], tup := false, res := [(false, [.bool])], pre := true }
def S74 : Smry := (.mk [(.db 9 (.cm .lss (.v 6) (.c 8))), (.call 75 [(.v 0), (.v 1), (.v 2), (.v 3), (.v 4), (.v 5), (.v 6), (.v 7), (.v 8), (.v 9), (.v 10)] [(.v 0), (.v 1), (.v 2), (.v 3), (.v 4), (.v 5), (.v 6), (.v 7), (.v 8)] 11 1 10 1), (.ob [((.v 9), false)] (.v 10)), (.db 11 (.cm .gtr (.v 11) (.c 2047))), (.db 12 (.or (.v 9) (.v 11)))] [] [(.v 12)])
theorem k74 : fnX Tryd.prog (tabS T22) gl (ctlOf Tryd.f74 gl s74) Tryd.f74 s74 = some S74 := by kernel_rfl
noncomputable def F74 : Fun := S74.run (tabF T22) true
theorem x74 : AllOk Tryd.prog (tabF T22) gl (tabS T22) := A22
theorem y74 : LoopsOk (tabF T22) (ctlOf Tryd.f74 gl s74) := (LoopsOk.nil rfl)
theorem z74 : (wsEm S74.em (argI s74.args) (argB s74.args) && shOk s74 && s74.pre) = true := by kernel_rfl
theorem d74 : Contract Tryd.prog gl 74 s74 (S74.run (tabF T22) s74.pre) := contract_pre x74 Tryd.func74 y74 k74 z74
theorem c74 : Contract Tryd.prog gl 74 s74 F74 := d74
theorem call74 : ∀ args w, (callFunc 74 args).run Tryd.prog w = .ok (.enter 74 args) w := callable_of Tryd.func74 (by kernel_rfl) (by kernel_rfl)
noncomputable def e74 : Nat × Sum × Fun := (74, s74, F74)
noncomputable def T23 : List (Nat × Sum × Fun) := e74 :: T22
theorem A23 : AllOk Tryd.prog (tabF T23) gl (tabS T23) := AllOk.cons (s := e74.2.1) c74 call74 (fun S h => by cases h) A22
/-! seepage/tone.level -/
def s76 : Sum := { args := [(.val true [.bool, .bool, .bool, (.int .u8), (.int .u8), (.int .u8)])], tup := false, res := [(false, [(.int .u8)])], pre := false }
def S76 : Smry := (.mk [(.db 3 (.not (.v 1))), (.di 3 (.ite (.v 3) (.v 2) (.v 0)))] [(.v 3)] [])
theorem k76 : fnX Tryd.prog (tabS T23) gl (ctlOf Tryd.f76 gl s76) Tryd.f76 s76 = some S76 := by kernel_rfl
noncomputable def F76 : Fun := S76.run (tabF T23) false
theorem x76 : AllOk Tryd.prog (tabF T23) gl (tabS T23) := A23
theorem y76 : LoopsOk (tabF T23) (ctlOf Tryd.f76 gl s76) := (LoopsOk.nil rfl)
theorem z76 : (wsEm S76.em (argI s76.args) (argB s76.args) && shOk s76 && noOb S76.em) = true := by kernel_rfl
theorem d76 : Contract Tryd.prog gl 76 s76 (S76.run (tabF T23) s76.pre) := contract_of x76 Tryd.func76 y76 k76 z76
theorem c76 : Contract Tryd.prog gl 76 s76 F76 := d76
theorem call76 : ∀ args w, (callFunc 76 args).run Tryd.prog w = .ok (.enter 76 args) w := callable_of Tryd.func76 (by kernel_rfl) (by kernel_rfl)
noncomputable def e76 : Nat × Sum × Fun := (76, withInl s76 S76, F76)
noncomputable def T24 : List (Nat × Sum × Fun) := e76 :: T23
theorem A24 : AllOk Tryd.prog (tabF T24) gl (tabS T24) := AllOk.cons (s := e76.2.1) c76 call76 (fun S h => by cases h; exact ⟨rfl, fun _ _ => rfl⟩) A23
/-! seepage/tone.PulseOut -/
def s36 : Sum := { args := [(.val true [.bool, .bool, .bool, .bool, (.int .u8), (.int .u8), (.int .u8), .bool, .bool, (.int .u8), (.int .u8), (.int .u8), (.int .u16), (.int .u16), .bool, .bool, .bool, (.int .u8), (.int .u8), (.int .u8)])], tup := false, res := [(false, [(.int .u8)])], pre := true }
def S36 : Smry := (.mk [(.call 68 [(.v 0), (.v 1), (.v 2), (.v 3), (.v 4), (.v 5), (.v 6), (.v 7), (.v 8), (.v 9), (.v 10)] [(.v 0), (.v 1), (.v 2), (.v 3), (.v 4), (.v 5), (.v 6), (.v 7), (.v 8)] 11 0 9 1), (.db 10 (.not (.v 9))), (.db 11 (.cm .eql (.v 3) (.c 0))), (.db 12 (.or (.v 10) (.v 11))), (.call 74 [(.v 0), (.v 1), (.v 2), (.v 3), (.v 4), (.v 5), (.v 6), (.v 7), (.v 8), (.v 9), (.v 10)] [(.v 0), (.v 1), (.v 2), (.v 3), (.v 4), (.v 5), (.v 6), (.v 7), (.v 8)] 11 0 13 2), (.ob [((.v 12), false)] (.v 13)), (.db 15 (.or (.v 12) (.v 14))), (.db 16 (.cm .geq (.v 4) (.c 0))), (.ob [((.v 15), false)] (.v 16)), (.db 17 (.cm .lss (.v 4) (.c 4))), (.ob [((.v 15), false)] (.v 17)), (.di 11 (.tab [2, 6, 30, 249] (.v 4))), (.db 18 (.cm .geq (.v 5) (.c 0))), (.ob [((.v 15), false)] (.v 18)), (.di 12 (.ar .shr .u8 (.v 11) (.v 5))), (.di 13 (.ar .and .u8 (.v 12) (.c 1))), (.db 19 (.cm .eql (.v 13) (.c 0))), (.db 20 (.or (.v 15) (.v 19))), (.db 21 (.not (.v 2))), (.di 14 (.ite (.v 21) (.v 2) (.v 0))), (.db 22 (.not (.v 20))), (.di 15 (.ite (.v 22) (.v 14) (.c 0)))] [(.v 15)] [])
theorem k36 : fnX Tryd.prog (tabS T24) gl (ctlOf Tryd.f36 gl s36) Tryd.f36 s36 = some S36 := by kernel_rfl
noncomputable def F36 : Fun := S36.run (tabF T24) true
theorem x36 : AllOk Tryd.prog (tabF T24) gl (tabS T24) := A24
theorem y36 : LoopsOk (tabF T24) (ctlOf Tryd.f36 gl s36) := (LoopsOk.nil rfl)
theorem z36 : (wsEm S36.em (argI s36.args) (argB s36.args) && shOk s36 && s36.pre) = true := by kernel_rfl
theorem d36 : Contract Tryd.prog gl 36 s36 (S36.run (tabF T24) s36.pre) := contract_pre x36 Tryd.func36 y36 k36 z36
theorem c36 : Contract Tryd.prog gl 36 s36 F36 := d36
theorem call36 : ∀ args w, (callFunc 36 args).run Tryd.prog w = .ok (.enter 36 args) w := callable_of Tryd.func36 (by kernel_rfl) (by kernel_rfl)
noncomputable def e36 : Nat × Sum × Fun := (36, s36, F36)
noncomputable def T25 : List (Nat × Sum × Fun) := e36 :: T24
theorem A25 : AllOk Tryd.prog (tabF T25) gl (tabS T25) := AllOk.cons (s := e36.2.1) c36 call36 (fun S h => by cases h) A24
/-! seepage/seepagelaw18.awake -/
def s31 : Sum := { args := [], tup := false, res := [(false, [.bool])], pre := true }
def S31 : Smry := (.mk [(.call 32 [(.c 0), (.c 0), (.c 0), (.c 0), (.c 0), (.c 0), (.c 0), (.c 0), (.c 0), (.c 0), (.c 0), (.c 3), (.c 8)] [(.c false), (.c false), (.c false), (.c false), (.c false), (.c true), (.c false), (.c false), (.c false)] 0 11 0 10), (.ob [] (.v 0)), (.db 10 (.cm .eql (.v 3) (.c 254))), (.call 58 [(.c 0), (.c 0), (.c 0), (.c 0), (.c 0), (.c 0)] [(.c false), (.c false), (.c false)] 11 1 11 0), (.db 11 (.cm .eql (.v 11) (.c 15))), (.db 12 (.and (.v 10) (.v 11))), (.call 36 [(.c 9), (.c 0), (.c 0), (.c 5), (.c 0), (.c 1), (.c 7), (.c 0), (.c 0), (.c 0), (.c 0)] [(.c false), (.c false), (.c true), (.c false), (.c false), (.c true), (.c false), (.c false), (.c false)] 12 1 13 1), (.ob [((.v 12), true)] (.v 13)), (.db 14 (.cm .eql (.v 12) (.c 0))), (.db 15 (.and (.v 12) (.v 14))), (.call 36 [(.c 9), (.c 0), (.c 0), (.c 5), (.c 0), (.c 1), (.c 8), (.c 0), (.c 0), (.c 0), (.c 0)] [(.c false), (.c false), (.c true), (.c false), (.c false), (.c true), (.c false), (.c false), (.c false)] 13 1 16 1), (.ob [((.v 15), true)] (.v 16)), (.db 17 (.cm .eql (.v 13) (.c 9))), (.db 18 (.and (.v 15) (.v 17)))] [] [(.v 18)])
theorem k31 : fnX Tryd.prog (tabS T25) gl (ctlOf Tryd.f31 gl s31) Tryd.f31 s31 = some S31 := by kernel_rfl
noncomputable def F31 : Fun := S31.run (tabF T25) true
theorem x31 : AllOk Tryd.prog (tabF T25) gl (tabS T25) := A25
theorem y31 : LoopsOk (tabF T25) (ctlOf Tryd.f31 gl s31) := (LoopsOk.nil rfl)
theorem z31 : (wsEm S31.em (argI s31.args) (argB s31.args) && shOk s31 && s31.pre) = true := by kernel_rfl
theorem d31 : Contract Tryd.prog gl 31 s31 (S31.run (tabF T25) s31.pre) := contract_pre x31 Tryd.func31 y31 k31 z31
theorem c31 : Contract Tryd.prog gl 31 s31 F31 := d31
theorem call31 : ∀ args w, (callFunc 31 args).run Tryd.prog w = .ok (.enter 31 args) w := callable_of Tryd.func31 (by kernel_rfl) (by kernel_rfl)
noncomputable def e31 : Nat × Sum × Fun := (31, s31, F31)
noncomputable def T26 : List (Nat × Sum × Fun) := e31 :: T25
theorem A26 : AllOk Tryd.prog (tabF T26) gl (tabS T26) := AllOk.cons (s := e31.2.1) c31 call31 (fun S h => by cases h) A25
/-! seepage/seepagelaw18.ToneClocks -/
def s9 : Sum := { args := [(.val true [.bool, .bool, .bool, .bool, (.int .u8), (.int .u8), (.int .u8), .bool, .bool, (.int .u8), (.int .u8), (.int .u8), (.int .u16), (.int .u16), .bool, .bool, .bool, (.int .u8), (.int .u8), (.int .u8), .bool, .bool, (.int .u8), (.int .u8), (.int .u8), .bool, (.int .u8), (.int .u16), (.int .u16), .bool, .bool, .bool, (.int .u8), (.int .u8), (.int .u8), .bool, .bool, (.int .u8), .bool, (.int .u8), (.int .u16), (.int .u16), (.int .i64), (.int .u8)]), (.val false [.bool])], tup := false, res := [(false, [.bool])], pre := true }
def S9 : Smry := (.mk [(.call 30 [(.v 0), (.v 1), (.v 2), (.v 3), (.v 4), (.v 5), (.v 6), (.v 7), (.v 8), (.v 9), (.v 10), (.v 11), (.v 12), (.v 13), (.v 14), (.v 15), (.v 16), (.v 17), (.v 18), (.v 19), (.v 20), (.v 21), (.v 22), (.v 23)] [(.v 0), (.v 1), (.v 2), (.v 3), (.v 4), (.v 5), (.v 6), (.v 7), (.v 8), (.v 9), (.v 10), (.v 11), (.v 12), (.v 13), (.v 14), (.v 15), (.v 16), (.v 17)] 26 1 19 0), (.db 19 (.cm .eql (.v 26) (.c 0))), (.call 37 [(.v 0), (.v 1), (.v 2), (.v 3), (.v 4), (.v 5), (.v 6), (.v 7), (.v 8), (.v 9), (.v 10)] [(.v 0), (.v 1), (.v 2), (.v 3), (.v 4), (.v 5), (.v 6), (.v 7), (.v 8)] 27 0 20 1), (.call 38 [(.v 11), (.v 12), (.v 13), (.v 14), (.v 15), (.v 16)] [(.v 9), (.v 10), (.v 11)] 27 0 21 1), (.db 22 (.and (.v 20) (.v 21))), (.call 39 [(.v 17), (.v 18), (.v 19), (.v 20), (.v 21), (.v 22), (.v 23)] [(.v 12), (.v 13), (.v 14), (.v 15), (.v 16), (.v 17)] 27 0 23 1), (.db 24 (.and (.v 22) (.v 23))), (.db 25 (.eqb (.v 19) (.v 24))), (.call 40 [(.v 0), (.v 1), (.v 2)] [(.v 1), (.v 2), (.v 3)] 27 3 26 3), (.call 41 [(.v 0), (.v 1), (.v 2)] [(.v 1), (.v 2), (.v 3)] 30 3 29 3), (.db 32 (.eqb (.v 26) (.v 29))), (.db 33 (.eqb (.v 27) (.v 30))), (.db 34 (.eqb (.v 28) (.v 31))), (.db 35 (.cm .eql (.v 27) (.v 30))), (.db 36 (.cm .eql (.v 28) (.v 31))), (.db 37 (.cm .eql (.v 29) (.v 32))), (.db 38 (.and (.v 36) (.v 37))), (.db 39 (.and (.v 35) (.v 38))), (.db 40 (.and (.v 34) (.v 39))), (.db 41 (.and (.v 33) (.v 40))), (.db 42 (.and (.v 32) (.v 41))), (.db 43 (.and (.v 25) (.v 42))), (.call 42 [(.v 3)] [(.v 4), (.v 5)] 33 1 44 2), (.call 43 [(.v 3)] [(.v 4), (.v 5)] 34 1 46 2), (.db 48 (.eqb (.v 44) (.v 46))), (.db 49 (.eqb (.v 45) (.v 47))), (.db 50 (.cm .eql (.v 33) (.v 34))), (.db 51 (.and (.v 49) (.v 50))), (.db 52 (.and (.v 48) (.v 51))), (.db 53 (.and (.v 43) (.v 52))), (.call 33 [(.v 3)] [(.v 4), (.v 5), (.v 18)] 35 1 54 2), (.call 44 [(.v 3)] [(.v 4), (.v 5), (.v 18)] 36 1 56 2), (.db 58 (.eqb (.v 54) (.v 56))), (.db 59 (.eqb (.v 55) (.v 57))), (.db 60 (.cm .eql (.v 35) (.v 36))), (.db 61 (.and (.v 59) (.v 60))), (.db 62 (.and (.v 58) (.v 61))), (.db 63 (.and (.v 53) (.v 62))), (.call 45 [] [] 37 7 64 6), (.db 70 (.eqb (.v 64) (.c false))), (.db 71 (.eqb (.v 65) (.c false))), (.db 72 (.eqb (.v 66) (.c false))), (.db 73 (.cm .eql (.v 37) (.c 0))), (.db 74 (.cm .eql (.v 38) (.c 0))), (.db 75 (.cm .eql (.v 39) (.c 0))), (.db 76 (.and (.v 74) (.v 75))), (.db 77 (.and (.v 73) (.v 76))), (.db 78 (.and (.v 72) (.v 77))), (.db 79 (.and (.v 71) (.v 78))), (.db 80 (.and (.v 70) (.v 79))), (.db 81 (.eqb (.v 67) (.c false))), (.db 82 (.eqb (.v 68) (.c false))), (.db 83 (.cm .eql (.v 40) (.c 0))), (.db 84 (.and (.v 82) (.v 83))), (.db 85 (.and (.v 81) (.v 84))), (.db 86 (.eqb (.v 69) (.c false))), (.db 87 (.cm .eql (.v 41) (.c 0))), (.db 88 (.cm .eql (.v 42) (.c 0))), (.db 89 (.cm .eql (.v 43) (.c 1))), (.db 90 (.and (.v 88) (.v 89))), (.db 91 (.and (.v 87) (.v 90))), (.db 92 (.and (.v 86) (.v 91))), (.db 93 (.and (.v 85) (.v 92))), (.db 94 (.and (.v 80) (.v 93))), (.db 95 (.and (.v 63) (.v 94))), (.call 31 [] [] 44 0 96 2), (.ob [((.v 95), true)] (.v 96)), (.db 98 (.and (.v 95) (.v 97)))] [] [(.v 98)])
theorem k9 : fnX Tryd.prog (tabS T26) gl (ctlOf Tryd.f9 gl s9) Tryd.f9 s9 = some S9 := by kernel_rfl
noncomputable def F9 : Fun := S9.run (tabF T26) true
theorem x9 : AllOk Tryd.prog (tabF T26) gl (tabS T26) := A26
theorem y9 : LoopsOk (tabF T26) (ctlOf Tryd.f9 gl s9) := (LoopsOk.nil rfl)
theorem z9 : (wsEm S9.em (argI s9.args) (argB s9.args) && shOk s9 && s9.pre) = true := by kernel_rfl
theorem d9 : Contract Tryd.prog gl 9 s9 (S9.run (tabF T26) s9.pre) := contract_pre x9 Tryd.func9 y9 k9 z9
theorem c9 : Contract Tryd.prog gl 9 s9 F9 := d9
theorem call9 : ∀ args w, (callFunc 9 args).run Tryd.prog w = .ok (.enter 9 args) w := callable_of Tryd.func9 (by kernel_rfl) (by kernel_rfl)
noncomputable def e9 : Nat × Sum × Fun := (9, s9, F9)
noncomputable def T27 : List (Nat × Sum × Fun) := e9 :: T26
theorem A27 : AllOk Tryd.prog (tabF T27) gl (tabS T27) := AllOk.cons (s := e9.2.1) c9 call9 (fun S h => by cases h) A26
/-! seepage/tone.TriangleWrite -/
def s52 : Sum := { args := [(.val true [.bool, .bool, (.int .u8), (.int .u8), (.int .u8), .bool, (.int .u8), (.int .u16), (.int .u16)]), (.val false [(.int .i64)]), (.val false [(.int .u8)])], tup := false, res := [(true, [.bool, .bool, (.int .u8), (.int .u8), (.int .u8), .bool, (.int .u8), (.int .u16), (.int .u16)])], pre := true }
def S52 : Smry := (.mk [(.call 69 [(.v 0), (.v 1), (.v 2), (.v 3), (.v 4), (.v 5)] [(.v 0), (.v 1), (.v 2)] 8 0 3 1), (.db 4 (.not (.v 3))), (.db 5 (.cm .eql (.v 6) (.c 0))), (.di 8 (.ar .and .u8 (.v 7) (.c 128))), (.db 6 (.cm .gtr (.v 8) (.c 0))), (.di 9 (.ar .and .u8 (.v 7) (.c 127))), (.db 7 (.cm .eql (.v 6) (.c 2))), (.db 8 (.cm .eql (.v 6) (.c 3))), (.db 9 (.ite (.v 7) (.v 7) (.v 8))), (.db 10 (.cm .eql (.v 6) (.c 2))), (.di 10 (.ar .and .u16 (.v 4) (.c 1792))), (.di 11 (.cv .u16 (.v 7))), (.di 12 (.ar .or .u16 (.v 10) (.v 11))), (.di 13 (.ar .and .u16 (.v 4) (.c 255))), (.di 14 (.ar .and .u8 (.v 7) (.c 7))), (.di 15 (.cv .u16 (.v 14))), (.di 16 (.ar .shl .u16 (.v 15) (.c 8))), (.di 17 (.ar .or .u16 (.v 13) (.v 16))), (.di 18 (.ite (.v 10) (.v 12) (.v 17))), (.db 11 (.cm .eql (.v 6) (.c 3))), (.call 73 [(.v 0), (.v 7)] [(.v 0), (.v 1)] 19 1 12 3), (.ob [((.v 4), false), ((.v 5), false), ((.v 9), true), ((.v 11), true)] (.v 12)), (.db 15 (.ite (.v 11) (.v 13) (.v 0))), (.db 16 (.ite (.v 11) (.v 14) (.v 1))), (.di 20 (.ite (.v 11) (.v 19) (.v 0))), (.db 17 (.or (.v 11) (.v 2))), (.db 18 (.ite (.v 9) (.v 15) (.v 0))), (.db 19 (.ite (.v 9) (.v 16) (.v 1))), (.di 21 (.ite (.v 9) (.v 20) (.v 0))), (.db 20 (.ite (.v 9) (.v 17) (.v 2))), (.di 22 (.ite (.v 9) (.v 18) (.v 4))), (.db 21 (.ite (.v 5) (.v 6) (.v 18))), (.db 22 (.ite (.v 5) (.v 1) (.v 19))), (.di 23 (.ite (.v 5) (.v 0) (.v 21))), (.di 24 (.ite (.v 5) (.v 9) (.v 2))), (.db 23 (.ite (.v 5) (.v 2) (.v 20))), (.di 25 (.ite (.v 5) (.v 4) (.v 22))), (.db 24 (.not (.v 4))), (.db 25 (.ite (.v 24) (.v 21) (.v 0))), (.db 26 (.ite (.v 24) (.v 22) (.v 1))), (.di 26 (.ite (.v 24) (.v 23) (.v 0))), (.di 27 (.ite (.v 24) (.v 24) (.v 2))), (.db 27 (.ite (.v 24) (.v 23) (.v 2))), (.di 28 (.ite (.v 24) (.v 25) (.v 4)))] [(.v 26), (.v 1), (.v 27), (.v 3), (.v 28), (.v 5)] [(.v 25), (.v 26), (.v 27)])
theorem k52 : fnX Tryd.prog (tabS T27) gl (ctlOf Tryd.f52 gl s52) Tryd.f52 s52 = some S52 := by kernel_rfl
noncomputable def F52 : Fun := S52.run (tabF T27) true
theorem x52 : AllOk Tryd.prog (tabF T27) gl (tabS T27) := A27
theorem y52 : LoopsOk (tabF T27) (ctlOf Tryd.f52 gl s52) := (LoopsOk.nil rfl)
theorem z52 : (wsEm S52.em (argI s52.args) (argB s52.args) && shOk s52 && s52.pre) = true := by kernel_rfl
theorem d52 : Contract Tryd.prog gl 52 s52 (S52.run (tabF T27) s52.pre) := contract_pre x52 Tryd.func52 y52 k52 z52
theorem c52 : Contract Tryd.prog gl 52 s52 F52 := d52
theorem call52 : ∀ args w, (callFunc 52 args).run Tryd.prog w = .ok (.enter 52 args) w := callable_of Tryd.func52 (by kernel_rfl) (by kernel_rfl)
noncomputable def e52 : Nat × Sum × Fun := (52, s52, F52)
noncomputable def T28 : List (Nat × Sum × Fun) := e52 :: T27
theorem A28 : AllOk Tryd.prog (tabF T28) gl (tabS T28) := AllOk.cons (s := e52.2.1) c52 call52 (fun S h => by cases h) A27
/-! seepage/seepageref18.Lengths -/
def s34 : Sum := tabSum (.i64, longs)
theorem k34 : tabX Tryd.prog (tabS T28) gl (ctlOf Tryd.f34 gl s34) Tryd.f34 (.i64, longs) = true := by kernel_rfl
theorem c34 : TabContract Tryd.prog gl 34 (.i64, longs) := contract_tab A28 Tryd.func34 (LoopsOk.nil rfl) k34
theorem call34 : ∀ args w, (callFunc 34 args).run Tryd.prog w = .ok (.enter 34 args) w := callable_of Tryd.func34 (by kernel_rfl) (by kernel_rfl)
def e34 : Nat × Sum × Fun := (34, s34, fun _ _ => ([], []))
noncomputable def T29 : List (Nat × Sum × Fun) := e34 :: T28
theorem A29 : AllOk Tryd.prog (tabF T29) gl (tabS T29) := AllOk.cons (s := e34.2.1) c34 call34 (fun S h => by cases h) A28
/-! seepage/seepageref18.loaded -/
def s80 : Sum := { args := [(.val true [.bool, .bool, (.int .u8)]), (.val false [(.int .u8)])], tup := false, res := [(true, [.bool, .bool, (.int .u8)])], pre := true }
def S80 : Smry := (.mk [(.di 2 (.ar .quo .u8 (.v 1) (.c 8))), (.db 2 (.cm .geq (.v 2) (.c 0))), (.ob [((.v 1), true)] (.v 2)), (.db 3 (.cm .lss (.v 2) (.c 32))), (.ob [((.v 1), true)] (.v 3)), (.di 3 (.tab [10, 254, 20, 2, 40, 4, 80, 6, 160, 8, 60, 10, 14, 12, 26, 14, 12, 16, 24, 18, 48, 20, 96, 22, 192, 24, 72, 26, 16, 28, 32, 30] (.v 2))), (.di 4 (.cv .u8 (.v 3))), (.di 5 (.ite (.v 1) (.v 4) (.v 0)))] [(.v 5)] [(.v 0), (.v 1)])
theorem k80 : fnX Tryd.prog (tabS T29) gl (ctlOf Tryd.f80 gl s80) Tryd.f80 s80 = some S80 := by kernel_rfl
noncomputable def F80 : Fun := S80.run (tabF T29) true
theorem x80 : AllOk Tryd.prog (tabF T29) gl (tabS T29) := A29
theorem y80 : LoopsOk (tabF T29) (ctlOf Tryd.f80 gl s80) := (LoopsOk.nil rfl)
theorem z80 : (wsEm S80.em (argI s80.args) (argB s80.args) && shOk s80 && s80.pre) = true := by kernel_rfl
theorem d80 : Contract Tryd.prog gl 80 s80 (S80.run (tabF T29) s80.pre) := contract_pre x80 Tryd.func80 y80 k80 z80
theorem c80 : Contract Tryd.prog gl 80 s80 F80 := d80
theorem call80 : ∀ args w, (callFunc 80 args).run Tryd.prog w = .ok (.enter 80 args) w := callable_of Tryd.func80 (by kernel_rfl) (by kernel_rfl)
noncomputable def e80 : Nat × Sum × Fun := (80, s80, F80)
noncomputable def T30 : List (Nat × Sum × Fun) := e80 :: T29
theorem A30 : AllOk Tryd.prog (tabF T30) gl (tabS T30) := AllOk.cons (s := e80.2.1) c80 call80 (fun S h => by cases h) A29
/-! seepage/seepageref18.TriangleWrite -/
def s53 : Sum := { args := [(.val true [.bool, .bool, (.int .u8), (.int .u8), (.int .u8), .bool, (.int .u8), (.int .u16), (.int .u16)]), (.val false [(.int .i64)]), (.val false [(.int .u8)])], tup := false, res := [(true, [.bool, .bool, (.int .u8), (.int .u8), (.int .u8), .bool, (.int .u8), (.int .u16), (.int .u16)])], pre := true }
def S53 : Smry := (.mk [(.call 38 [(.v 0), (.v 1), (.v 2), (.v 3), (.v 4), (.v 5)] [(.v 0), (.v 1), (.v 2)] 8 0 3 1), (.db 4 (.not (.v 3))), (.db 5 (.cm .eql (.v 6) (.c 0))), (.db 6 (.cm .geq (.v 7) (.c 128))), (.di 8 (.ar .rem .u8 (.v 7) (.c 128))), (.db 7 (.cm .eql (.v 6) (.c 2))), (.di 9 (.ar .quo .u16 (.v 4) (.c 256))), (.di 10 (.ar .mul .u16 (.v 9) (.c 256))), (.di 11 (.cv .u16 (.v 7))), (.di 12 (.ar .add .u16 (.v 10) (.v 11))), (.db 8 (.cm .eql (.v 6) (.c 3))), (.di 13 (.ar .rem .u16 (.v 4) (.c 256))), (.di 14 (.ar .rem .u8 (.v 7) (.c 8))), (.di 15 (.cv .u16 (.v 14))), (.di 16 (.ar .mul .u16 (.c 256) (.v 15))), (.di 17 (.ar .add .u16 (.v 13) (.v 16))), (.call 80 [(.v 0), (.v 7)] [(.v 0), (.v 1)] 18 1 9 3), (.ob [((.v 4), false), ((.v 5), false), ((.v 7), false), ((.v 8), true)] (.v 9)), (.db 12 (.ite (.v 8) (.v 10) (.v 0))), (.db 13 (.ite (.v 8) (.v 11) (.v 1))), (.di 19 (.ite (.v 8) (.v 18) (.v 0))), (.db 14 (.or (.v 8) (.v 2))), (.di 20 (.ite (.v 8) (.v 17) (.v 4))), (.db 15 (.ite (.v 7) (.v 0) (.v 12))), (.db 16 (.ite (.v 7) (.v 1) (.v 13))), (.di 21 (.ite (.v 7) (.v 0) (.v 19))), (.db 17 (.ite (.v 7) (.v 2) (.v 14))), (.di 22 (.ite (.v 7) (.v 12) (.v 20))), (.db 18 (.ite (.v 5) (.v 6) (.v 15))), (.db 19 (.ite (.v 5) (.v 1) (.v 16))), (.di 23 (.ite (.v 5) (.v 0) (.v 21))), (.di 24 (.ite (.v 5) (.v 8) (.v 2))), (.db 20 (.ite (.v 5) (.v 2) (.v 17))), (.di 25 (.ite (.v 5) (.v 4) (.v 22))), (.db 21 (.not (.v 4))), (.db 22 (.ite (.v 21) (.v 18) (.v 0))), (.db 23 (.ite (.v 21) (.v 19) (.v 1))), (.di 26 (.ite (.v 21) (.v 23) (.v 0))), (.di 27 (.ite (.v 21) (.v 24) (.v 2))), (.db 24 (.ite (.v 21) (.v 20) (.v 2))), (.di 28 (.ite (.v 21) (.v 25) (.v 4)))] [(.v 26), (.v 1), (.v 27), (.v 3), (.v 28), (.v 5)] [(.v 22), (.v 23), (.v 24)])
theorem k53 : fnX Tryd.prog (tabS T30) gl (ctlOf Tryd.f53 gl s53) Tryd.f53 s53 = some S53 := by kernel_rfl
noncomputable def F53 : Fun := S53.run (tabF T30) true
theorem x53 : AllOk Tryd.prog (tabF T30) gl (tabS T30) := A30
theorem y53 : LoopsOk (tabF T30) (ctlOf Tryd.f53 gl s53) := (LoopsOk.nil rfl)
theorem z53 : (wsEm S53.em (argI s53.args) (argB s53.args) && shOk s53 && s53.pre) = true := by kernel_rfl
theorem d53 : Contract Tryd.prog gl 53 s53 (S53.run (tabF T30) s53.pre) := contract_pre x53 Tryd.func53 y53 k53 z53
theorem c53 : Contract Tryd.prog gl 53 s53 F53 := d53
theorem call53 : ∀ args w, (callFunc 53 args).run Tryd.prog w = .ok (.enter 53 args) w := callable_of Tryd.func53 (by kernel_rfl) (by kernel_rfl)
noncomputable def e53 : Nat × Sum × Fun := (53, s53, F53)
noncomputable def T31 : List (Nat × Sum × Fun) := e53 :: T30
theorem A31 : AllOk Tryd.prog (tabF T31) gl (tabS T31) := AllOk.cons (s := e53.2.1) c53 call53 (fun S h => by cases h) A30
/-! seepage/tone.TriangleTick -/
def s54 : Sum := { args := [(.val true [.bool, .bool, (.int .u8), (.int .u8), (.int .u8), .bool, (.int .u8), (.int .u16), (.int .u16)])], tup := false, res := [(true, [.bool, .bool, (.int .u8), (.int .u8), (.int .u8), .bool, (.int .u8), (.int .u16), (.int .u16)])], pre := false }
def S54 : Smry := (.mk [(.call 69 [(.v 0), (.v 1), (.v 2), (.v 3), (.v 4), (.v 5)] [(.v 0), (.v 1), (.v 2)] 6 0 3 1), (.db 4 (.not (.v 3))), (.db 5 (.cm .gtr (.v 5) (.c 0))), (.di 6 (.ar .sub .u16 (.v 5) (.c 1))), (.db 6 (.cm .gtr (.v 0) (.c 0))), (.db 7 (.cm .gtr (.v 1) (.c 0))), (.db 8 (.and (.v 6) (.v 7))), (.di 7 (.ar .add .u8 (.v 3) (.c 1))), (.di 8 (.ar .and .u8 (.v 7) (.c 31))), (.di 9 (.ite (.v 8) (.v 8) (.v 3))), (.di 10 (.ite (.v 5) (.v 3) (.v 9))), (.di 11 (.ite (.v 5) (.v 6) (.v 4))), (.di 12 (.ite (.v 4) (.v 3) (.v 10))), (.di 13 (.ite (.v 4) (.v 5) (.v 11)))] [(.v 0), (.v 1), (.v 2), (.v 12), (.v 4), (.v 13)] [(.v 0), (.v 1), (.v 2)])
theorem k54 : fnX Tryd.prog (tabS T31) gl (ctlOf Tryd.f54 gl s54) Tryd.f54 s54 = some S54 := by kernel_rfl
noncomputable def F54 : Fun := S54.run (tabF T31) false
theorem x54 : AllOk Tryd.prog (tabF T31) gl (tabS T31) := A31
theorem y54 : LoopsOk (tabF T31) (ctlOf Tryd.f54 gl s54) := (LoopsOk.nil rfl)
theorem z54 : (wsEm S54.em (argI s54.args) (argB s54.args) && shOk s54 && noOb S54.em) = true := by kernel_rfl
theorem d54 : Contract Tryd.prog gl 54 s54 (S54.run (tabF T31) s54.pre) := contract_of x54 Tryd.func54 y54 k54 z54
theorem c54 : Contract Tryd.prog gl 54 s54 F54 := d54
theorem call54 : ∀ args w, (callFunc 54 args).run Tryd.prog w = .ok (.enter 54 args) w := callable_of Tryd.func54 (by kernel_rfl) (by kernel_rfl)
noncomputable def e54 : Nat × Sum × Fun := (54, s54, F54)
noncomputable def T32 : List (Nat × Sum × Fun) := e54 :: T31
theorem A32 : AllOk Tryd.prog (tabF T32) gl (tabS T32) := AllOk.cons (s := e54.2.1) c54 call54 (fun S h => by cases h) A31
/-! seepage/seepageref18.TriangleTick -/
def s55 : Sum := { args := [(.val true [.bool, .bool, (.int .u8), (.int .u8), (.int .u8), .bool, (.int .u8), (.int .u16), (.int .u16)])], tup := false, res := [(true, [.bool, .bool, (.int .u8), (.int .u8), (.int .u8), .bool, (.int .u8), (.int .u16), (.int .u16)])], pre := false }
def S55 : Smry := (.mk [(.call 38 [(.v 0), (.v 1), (.v 2), (.v 3), (.v 4), (.v 5)] [(.v 0), (.v 1), (.v 2)] 6 0 3 1), (.db 4 (.not (.v 3))), (.db 5 (.cm .neq (.v 5) (.c 0))), (.di 6 (.ar .sub .u16 (.v 5) (.c 1))), (.db 6 (.cm .neq (.v 0) (.c 0))), (.db 7 (.cm .neq (.v 1) (.c 0))), (.db 8 (.and (.v 6) (.v 7))), (.di 7 (.ar .add .u8 (.v 3) (.c 1))), (.di 8 (.ar .rem .u8 (.v 7) (.c 32))), (.di 9 (.ite (.v 8) (.v 8) (.v 3))), (.db 9 (.not (.v 5))), (.di 10 (.ite (.v 9) (.v 9) (.v 3))), (.di 11 (.ite (.v 9) (.v 4) (.v 6))), (.db 10 (.not (.v 4))), (.di 12 (.ite (.v 10) (.v 10) (.v 3))), (.di 13 (.ite (.v 10) (.v 11) (.v 5)))] [(.v 0), (.v 1), (.v 2), (.v 12), (.v 4), (.v 13)] [(.v 0), (.v 1), (.v 2)])
theorem k55 : fnX Tryd.prog (tabS T32) gl (ctlOf Tryd.f55 gl s55) Tryd.f55 s55 = some S55 := by kernel_rfl
noncomputable def F55 : Fun := S55.run (tabF T32) false
theorem x55 : AllOk Tryd.prog (tabF T32) gl (tabS T32) := A32
theorem y55 : LoopsOk (tabF T32) (ctlOf Tryd.f55 gl s55) := (LoopsOk.nil rfl)
theorem z55 : (wsEm S55.em (argI s55.args) (argB s55.args) && shOk s55 && noOb S55.em) = true := by kernel_rfl
theorem d55 : Contract Tryd.prog gl 55 s55 (S55.run (tabF T32) s55.pre) := contract_of x55 Tryd.func55 y55 k55 z55
theorem c55 : Contract Tryd.prog gl 55 s55 F55 := d55
theorem call55 : ∀ args w, (callFunc 55 args).run Tryd.prog w = .ok (.enter 55 args) w := callable_of Tryd.func55 (by kernel_rfl) (by kernel_rfl)
noncomputable def e55 : Nat × Sum × Fun := (55, s55, F55)
noncomputable def T33 : List (Nat × Sum × Fun) := e55 :: T32
theorem A33 : AllOk Tryd.prog (tabF T33) gl (tabS T33) := AllOk.cons (s := e55.2.1) c55 call55 (fun S h => by cases h) A32
/-! seepage/tone.TriangleQuarter -/
def s56 : Sum := { args := [(.val true [.bool, .bool, (.int .u8), (.int .u8), (.int .u8), .bool, (.int .u8), (.int .u16), (.int .u16)])], tup := false, res := [(true, [.bool, .bool, (.int .u8), (.int .u8), (.int .u8), .bool, (.int .u8), (.int .u16), (.int .u16)])], pre := false }
def S56 : Smry := (.mk [(.call 69 [(.v 0), (.v 1), (.v 2), (.v 3), (.v 4), (.v 5)] [(.v 0), (.v 1), (.v 2)] 6 0 3 1), (.db 4 (.not (.v 3))), (.db 5 (.cm .gtr (.v 1) (.c 0))), (.di 6 (.ar .sub .u8 (.v 1) (.c 1))), (.di 7 (.ite (.v 5) (.v 6) (.v 1))), (.di 8 (.ite (.v 2) (.v 2) (.v 7))), (.db 6 (.and (.v 2) (.v 0))), (.db 7 (.not (.v 4))), (.di 9 (.ite (.v 7) (.v 8) (.v 1))), (.db 8 (.ite (.v 7) (.v 6) (.v 2)))] [(.v 0), (.v 9), (.v 2), (.v 3), (.v 4), (.v 5)] [(.v 0), (.v 1), (.v 8)])
theorem k56 : fnX Tryd.prog (tabS T33) gl (ctlOf Tryd.f56 gl s56) Tryd.f56 s56 = some S56 := by kernel_rfl
noncomputable def F56 : Fun := S56.run (tabF T33) false
theorem x56 : AllOk Tryd.prog (tabF T33) gl (tabS T33) := A33
theorem y56 : LoopsOk (tabF T33) (ctlOf Tryd.f56 gl s56) := (LoopsOk.nil rfl)
theorem z56 : (wsEm S56.em (argI s56.args) (argB s56.args) && shOk s56 && noOb S56.em) = true := by kernel_rfl
theorem d56 : Contract Tryd.prog gl 56 s56 (S56.run (tabF T33) s56.pre) := contract_of x56 Tryd.func56 y56 k56 z56
theorem c56 : Contract Tryd.prog gl 56 s56 F56 := d56
theorem call56 : ∀ args w, (callFunc 56 args).run Tryd.prog w = .ok (.enter 56 args) w := callable_of Tryd.func56 (by kernel_rfl) (by kernel_rfl)
noncomputable def e56 : Nat × Sum × Fun := (56, s56, F56)
noncomputable def T34 : List (Nat × Sum × Fun) := e56 :: T33
theorem A34 : AllOk Tryd.prog (tabF T34) gl (tabS T34) := AllOk.cons (s := e56.2.1) c56 call56 (fun S h => by cases h) A33
/-! seepage/seepageref18.TriangleQuarter -/
def s57 : Sum := { args := [(.val true [.bool, .bool, (.int .u8), (.int .u8), (.int .u8), .bool, (.int .u8), (.int .u16), (.int .u16)])], tup := false, res := [(true, [.bool, .bool, (.int .u8), (.int .u8), (.int .u8), .bool, (.int .u8), (.int .u16), (.int .u16)])], pre := false }
def S57 : Smry := (.mk [(.call 38 [(.v 0), (.v 1), (.v 2), (.v 3), (.v 4), (.v 5)] [(.v 0), (.v 1), (.v 2)] 6 0 3 1), (.db 4 (.not (.v 3))), (.db 5 (.cm .neq (.v 1) (.c 0))), (.di 6 (.ar .sub .u8 (.v 1) (.c 1))), (.di 7 (.ite (.v 5) (.v 6) (.v 1))), (.di 8 (.ite (.v 2) (.v 2) (.v 7))), (.db 6 (.not (.v 0))), (.db 7 (.ite (.v 6) (.c false) (.v 2))), (.db 8 (.not (.v 4))), (.di 9 (.ite (.v 8) (.v 8) (.v 1))), (.db 9 (.ite (.v 8) (.v 7) (.v 2)))] [(.v 0), (.v 9), (.v 2), (.v 3), (.v 4), (.v 5)] [(.v 0), (.v 1), (.v 9)])
theorem k57 : fnX Tryd.prog (tabS T34) gl (ctlOf Tryd.f57 gl s57) Tryd.f57 s57 = some S57 := by kernel_rfl
noncomputable def F57 : Fun := S57.run (tabF T34) false
theorem x57 : AllOk Tryd.prog (tabF T34) gl (tabS T34) := A34
theorem y57 : LoopsOk (tabF T34) (ctlOf Tryd.f57 gl s57) := (LoopsOk.nil rfl)
theorem z57 : (wsEm S57.em (argI s57.args) (argB s57.args) && shOk s57 && noOb S57.em) = true := by kernel_rfl
theorem d57 : Contract Tryd.prog gl 57 s57 (S57.run (tabF T34) s57.pre) := contract_of x57 Tryd.func57 y57 k57 z57
theorem c57 : Contract Tryd.prog gl 57 s57 F57 := d57
theorem call57 : ∀ args w, (callFunc 57 args).run Tryd.prog w = .ok (.enter 57 args) w := callable_of Tryd.func57 (by kernel_rfl) (by kernel_rfl)
noncomputable def e57 : Nat × Sum × Fun := (57, s57, F57)
noncomputable def T35 : List (Nat × Sum × Fun) := e57 :: T34
theorem A35 : AllOk Tryd.prog (tabF T35) gl (tabS T35) := AllOk.cons (s := e57.2.1) c57 call57 (fun S h => by cases h) A34
/-! seepage/seepageref18.TriangleOut -/
def s59 : Sum := { args := [(.val true [.bool, .bool, (.int .u8), (.int .u8), (.int .u8), .bool, (.int .u8), (.int .u16), (.int .u16)])], tup := false, res := [(false, [(.int .u8)])], pre := false }
def S59 : Smry := (.mk [(.call 38 [(.v 0), (.v 1), (.v 2), (.v 3), (.v 4), (.v 5)] [(.v 0), (.v 1), (.v 2)] 6 0 3 1), (.db 4 (.not (.v 3))), (.db 5 (.cm .lss (.v 3) (.c 16))), (.di 6 (.ar .sub .u8 (.c 15) (.v 3))), (.di 7 (.ar .sub .u8 (.v 3) (.c 16))), (.db 6 (.not (.v 5))), (.di 8 (.ite (.v 6) (.v 7) (.v 6))), (.db 7 (.not (.v 4))), (.di 9 (.ite (.v 7) (.v 8) (.c 0)))] [(.v 9)] [])
theorem k59 : fnX Tryd.prog (tabS T35) gl (ctlOf Tryd.f59 gl s59) Tryd.f59 s59 = some S59 := by kernel_rfl
noncomputable def F59 : Fun := S59.run (tabF T35) false
theorem x59 : AllOk Tryd.prog (tabF T35) gl (tabS T35) := A35
theorem y59 : LoopsOk (tabF T35) (ctlOf Tryd.f59 gl s59) := (LoopsOk.nil rfl)
theorem z59 : (wsEm S59.em (argI s59.args) (argB s59.args) && shOk s59 && noOb S59.em) = true := by kernel_rfl
theorem d59 : Contract Tryd.prog gl 59 s59 (S59.run (tabF T35) s59.pre) := contract_of x59 Tryd.func59 y59 k59 z59
theorem c59 : Contract Tryd.prog gl 59 s59 F59 := d59
theorem call59 : ∀ args w, (callFunc 59 args).run Tryd.prog w = .ok (.enter 59 args) w := callable_of Tryd.func59 (by kernel_rfl) (by kernel_rfl)
noncomputable def e59 : Nat × Sum × Fun := (59, s59, F59)
noncomputable def T36 : List (Nat × Sum × Fun) := e59 :: T35
theorem A36 : AllOk Tryd.prog (tabF T36) gl (tabS T36) := AllOk.cons (s := e59.2.1) c59 call59 (fun S h => by cases h) A35
/-! seepage/seepagelaw18.ToneTriangle -/
def s11 : Sum := { args := [(.val true [.bool, .bool, .bool, .bool, (.int .u8), (.int .u8), (.int .u8), .bool, .bool, (.int .u8), (.int .u8), (.int .u8), (.int .u16), (.int .u16), .bool, .bool, .bool, (.int .u8), (.int .u8), (.int .u8), .bool, .bool, (.int .u8), (.int .u8), (.int .u8), .bool, (.int .u8), (.int .u16), (.int .u16), .bool, .bool, .bool, (.int .u8), (.int .u8), (.int .u8), .bool, .bool, (.int .u8), .bool, (.int .u8), (.int .u16), (.int .u16), (.int .i64), (.int .u8)])], tup := false, res := [(false, [.bool])], pre := true }
def S11 : Smry := (.mk [(.call 52 [(.v 11), (.v 12), (.v 13), (.v 14), (.v 15), (.v 16), (.v 24), (.v 25)] [(.v 9), (.v 10), (.v 11)] 26 6 18 4), (.ob [] (.v 18)), (.call 53 [(.v 11), (.v 12), (.v 13), (.v 14), (.v 15), (.v 16), (.v 24), (.v 25)] [(.v 9), (.v 10), (.v 11)] 32 6 22 4), (.ob [] (.v 22)), (.db 26 (.eqb (.v 19) (.v 23))), (.db 27 (.eqb (.v 20) (.v 24))), (.db 28 (.cm .eql (.v 26) (.v 32))), (.db 29 (.and (.v 27) (.v 28))), (.db 30 (.and (.v 26) (.v 29))), (.db 31 (.cm .eql (.v 27) (.v 33))), (.db 32 (.cm .eql (.v 28) (.v 34))), (.db 33 (.eqb (.v 21) (.v 25))), (.db 34 (.cm .eql (.v 29) (.v 35))), (.db 35 (.cm .eql (.v 30) (.v 36))), (.db 36 (.cm .eql (.v 31) (.v 37))), (.db 37 (.and (.v 35) (.v 36))), (.db 38 (.and (.v 34) (.v 37))), (.db 39 (.and (.v 33) (.v 38))), (.db 40 (.and (.v 32) (.v 39))), (.db 41 (.and (.v 31) (.v 40))), (.db 42 (.and (.v 30) (.v 41))), (.call 54 [(.v 11), (.v 12), (.v 13), (.v 14), (.v 15), (.v 16)] [(.v 9), (.v 10), (.v 11)] 38 6 43 3), (.call 55 [(.v 11), (.v 12), (.v 13), (.v 14), (.v 15), (.v 16)] [(.v 9), (.v 10), (.v 11)] 44 6 46 3), (.db 49 (.eqb (.v 43) (.v 46))), (.db 50 (.eqb (.v 44) (.v 47))), (.db 51 (.cm .eql (.v 38) (.v 44))), (.db 52 (.and (.v 50) (.v 51))), (.db 53 (.and (.v 49) (.v 52))), (.db 54 (.cm .eql (.v 39) (.v 45))), (.db 55 (.cm .eql (.v 40) (.v 46))), (.db 56 (.eqb (.v 45) (.v 48))), (.db 57 (.cm .eql (.v 41) (.v 47))), (.db 58 (.cm .eql (.v 42) (.v 48))), (.db 59 (.cm .eql (.v 43) (.v 49))), (.db 60 (.and (.v 58) (.v 59))), (.db 61 (.and (.v 57) (.v 60))), (.db 62 (.and (.v 56) (.v 61))), (.db 63 (.and (.v 55) (.v 62))), (.db 64 (.and (.v 54) (.v 63))), (.db 65 (.and (.v 53) (.v 64))), (.db 66 (.and (.v 42) (.v 65))), (.call 56 [(.v 11), (.v 12), (.v 13), (.v 14), (.v 15), (.v 16)] [(.v 9), (.v 10), (.v 11)] 50 6 67 3), (.call 57 [(.v 11), (.v 12), (.v 13), (.v 14), (.v 15), (.v 16)] [(.v 9), (.v 10), (.v 11)] 56 6 70 3), (.db 73 (.eqb (.v 67) (.v 70))), (.db 74 (.eqb (.v 68) (.v 71))), (.db 75 (.cm .eql (.v 50) (.v 56))), (.db 76 (.and (.v 74) (.v 75))), (.db 77 (.and (.v 73) (.v 76))), (.db 78 (.cm .eql (.v 51) (.v 57))), (.db 79 (.cm .eql (.v 52) (.v 58))), (.db 80 (.eqb (.v 69) (.v 72))), (.db 81 (.cm .eql (.v 53) (.v 59))), (.db 82 (.cm .eql (.v 54) (.v 60))), (.db 83 (.cm .eql (.v 55) (.v 61))), (.db 84 (.and (.v 82) (.v 83))), (.db 85 (.and (.v 81) (.v 84))), (.db 86 (.and (.v 80) (.v 85))), (.db 87 (.and (.v 79) (.v 86))), (.db 88 (.and (.v 78) (.v 87))), (.db 89 (.and (.v 77) (.v 88))), (.db 90 (.and (.v 66) (.v 89))), (.call 58 [(.v 11), (.v 12), (.v 13), (.v 14), (.v 15), (.v 16)] [(.v 9), (.v 10), (.v 11)] 62 1 91 0), (.call 59 [(.v 11), (.v 12), (.v 13), (.v 14), (.v 15), (.v 16)] [(.v 9), (.v 10), (.v 11)] 63 1 91 0), (.db 91 (.cm .eql (.v 62) (.v 63))), (.db 92 (.and (.v 90) (.v 91))), (.call 31 [] [] 64 0 93 2), (.ob [((.v 92), true)] (.v 93)), (.db 95 (.and (.v 92) (.v 94)))] [] [(.v 95)])
theorem k11 : fnX Tryd.prog (tabS T36) gl (ctlOf Tryd.f11 gl s11) Tryd.f11 s11 = some S11 := by kernel_rfl
noncomputable def F11 : Fun := S11.run (tabF T36) true
theorem x11 : AllOk Tryd.prog (tabF T36) gl (tabS T36) := A36
theorem y11 : LoopsOk (tabF T36) (ctlOf Tryd.f11 gl s11) := (LoopsOk.nil rfl)
theorem z11 : (wsEm S11.em (argI s11.args) (argB s11.args) && shOk s11 && s11.pre) = true := by kernel_rfl
theorem d11 : Contract Tryd.prog gl 11 s11 (S11.run (tabF T36) s11.pre) := contract_pre x11 Tryd.func11 y11 k11 z11
theorem c11 : Contract Tryd.prog gl 11 s11 F11 := d11
theorem call11 : ∀ args w, (callFunc 11 args).run Tryd.prog w = .ok (.enter 11 args) w := callable_of Tryd.func11 (by kernel_rfl) (by kernel_rfl)
noncomputable def e11 : Nat × Sum × Fun := (11, s11, F11)
noncomputable def T37 : List (Nat × Sum × Fun) := e11 :: T36
theorem A37 : AllOk Tryd.prog (tabF T37) gl (tabS T37) := AllOk.cons (s := e11.2.1) c11 call11 (fun S h => by cases h) A36
/-! seepage/seepageref18.first -/
def s79 : Sum := { args := [(.val true [.bool, .bool, .bool, (.int .u8), (.int .u8), (.int .u8)]), (.val false [(.int .u8)])], tup := false, res := [(true, [.bool, .bool, .bool, (.int .u8), (.int .u8), (.int .u8)])], pre := false }
def S79 : Smry := (.mk [(.di 4 (.ar .quo .u8 (.v 3) (.c 32))), (.di 5 (.ar .rem .u8 (.v 4) (.c 2))), (.db 3 (.cm .eql (.v 5) (.c 1))), (.di 6 (.ar .quo .u8 (.v 3) (.c 16))), (.di 7 (.ar .rem .u8 (.v 6) (.c 2))), (.db 4 (.cm .eql (.v 7) (.c 1))), (.di 8 (.ar .rem .u8 (.v 3) (.c 16)))] [(.v 8), (.v 1), (.v 2)] [(.v 3), (.v 4), (.v 2)])
theorem k79 : fnX Tryd.prog (tabS T37) gl (ctlOf Tryd.f79 gl s79) Tryd.f79 s79 = some S79 := by kernel_rfl
noncomputable def F79 : Fun := S79.run (tabF T37) false
theorem x79 : AllOk Tryd.prog (tabF T37) gl (tabS T37) := A37
theorem y79 : LoopsOk (tabF T37) (ctlOf Tryd.f79 gl s79) := (LoopsOk.nil rfl)
theorem z79 : (wsEm S79.em (argI s79.args) (argB s79.args) && shOk s79 && noOb S79.em) = true := by kernel_rfl
theorem d79 : Contract Tryd.prog gl 79 s79 (S79.run (tabF T37) s79.pre) := contract_of x79 Tryd.func79 y79 k79 z79
theorem c79 : Contract Tryd.prog gl 79 s79 F79 := d79
theorem call79 : ∀ args w, (callFunc 79 args).run Tryd.prog w = .ok (.enter 79 args) w := callable_of Tryd.func79 (by kernel_rfl) (by kernel_rfl)
noncomputable def e79 : Nat × Sum × Fun := (79, withInl s79 S79, F79)
noncomputable def T38 : List (Nat × Sum × Fun) := e79 :: T37
theorem A38 : AllOk Tryd.prog (tabF T38) gl (tabS T38) := AllOk.cons (s := e79.2.1) c79 call79 (fun S h => by cases h; exact ⟨rfl, fun _ _ => rfl⟩) A37
/-! seepage/seepageref18.PulseWrite -/
def s61 : Sum := { args := [(.val true [.bool, .bool, .bool, .bool, (.int .u8), (.int .u8), (.int .u8), .bool, .bool, (.int .u8), (.int .u8), (.int .u8), (.int .u16), (.int .u16), .bool, .bool, .bool, (.int .u8), (.int .u8), (.int .u8)]), (.val false [(.int .i64)]), (.val false [(.int .u8)])], tup := false, res := [(true, [.bool, .bool, .bool, .bool, (.int .u8), (.int .u8), (.int .u8), .bool, .bool, (.int .u8), (.int .u8), (.int .u8), (.int .u16), (.int .u16), .bool, .bool, .bool, (.int .u8), (.int .u8), (.int .u8)])], pre := true }
def S61 : Smry := (.mk [(.call 37 [(.v 0), (.v 1), (.v 2), (.v 3), (.v 4), (.v 5), (.v 6), (.v 7), (.v 8), (.v 9), (.v 10)] [(.v 0), (.v 1), (.v 2), (.v 3), (.v 4), (.v 5), (.v 6), (.v 7), (.v 8)] 13 0 9 1), (.db 10 (.not (.v 9))), (.db 11 (.cm .eql (.v 11) (.c 0))), (.di 13 (.ar .quo .u8 (.v 12) (.c 64))), (.di 14 (.ar .quo .u8 (.v 12) (.c 32))), (.di 15 (.ar .rem .u8 (.v 14) (.c 2))), (.db 12 (.cm .eql (.v 15) (.c 1))), (.di 16 (.ar .quo .u8 (.v 12) (.c 16))), (.di 17 (.ar .rem .u8 (.v 16) (.c 2))), (.db 13 (.cm .eql (.v 17) (.c 1))), (.di 18 (.ar .rem .u8 (.v 12) (.c 16))), (.di 19 (.ar .quo .u8 (.v 12) (.c 32))), (.di 20 (.ar .rem .u8 (.v 19) (.c 2))), (.db 14 (.cm .eql (.v 20) (.c 1))), (.db 15 (.cm .eql (.v 11) (.c 1))), (.db 16 (.cm .geq (.v 12) (.c 128))), (.di 21 (.ar .quo .u8 (.v 12) (.c 16))), (.di 22 (.ar .rem .u8 (.v 21) (.c 8))), (.di 23 (.ar .quo .u8 (.v 12) (.c 8))), (.di 24 (.ar .rem .u8 (.v 23) (.c 2))), (.db 17 (.cm .eql (.v 24) (.c 1))), (.di 25 (.ar .rem .u8 (.v 12) (.c 8))), (.db 18 (.cm .eql (.v 11) (.c 2))), (.di 26 (.ar .quo .u16 (.v 6) (.c 256))), (.di 27 (.ar .mul .u16 (.v 26) (.c 256))), (.di 28 (.cv .u16 (.v 12))), (.di 29 (.ar .add .u16 (.v 27) (.v 28))), (.db 19 (.cm .eql (.v 11) (.c 3))), (.di 30 (.ar .rem .u16 (.v 6) (.c 256))), (.di 31 (.ar .rem .u8 (.v 12) (.c 8))), (.di 32 (.cv .u16 (.v 31))), (.di 33 (.ar .mul .u16 (.c 256) (.v 32))), (.di 34 (.ar .add .u16 (.v 30) (.v 33))), (.call 80 [(.v 3), (.v 12)] [(.v 4), (.v 5)] 35 1 20 3), (.ob [((.v 10), false), ((.v 11), false), ((.v 15), false), ((.v 18), false), ((.v 19), true)] (.v 20)), (.db 23 (.or (.v 19) (.v 3))), (.db 24 (.ite (.v 19) (.v 21) (.v 4))), (.db 25 (.ite (.v 19) (.v 22) (.v 5))), (.di 36 (.ite (.v 19) (.v 35) (.v 3))), (.di 37 (.ite (.v 19) (.c 0) (.v 5))), (.di 38 (.ite (.v 19) (.v 34) (.v 6))), (.db 26 (.ite (.v 18) (.v 3) (.v 23))), (.db 27 (.ite (.v 18) (.v 4) (.v 24))), (.db 28 (.ite (.v 18) (.v 5) (.v 25))), (.di 39 (.ite (.v 18) (.v 3) (.v 36))), (.di 40 (.ite (.v 18) (.v 5) (.v 37))), (.di 41 (.ite (.v 18) (.v 29) (.v 38))), (.db 29 (.ite (.v 15) (.v 3) (.v 26))), (.db 30 (.ite (.v 15) (.v 4) (.v 27))), (.db 31 (.ite (.v 15) (.v 5) (.v 28))), (.di 42 (.ite (.v 15) (.v 3) (.v 39))), (.di 43 (.ite (.v 15) (.v 5) (.v 40))), (.di 44 (.ite (.v 15) (.v 6) (.v 41))), (.db 32 (.ite (.v 15) (.v 16) (.v 6))), (.db 33 (.ite (.v 15) (.v 17) (.v 7))), (.db 34 (.or (.v 15) (.v 8))), (.di 45 (.ite (.v 15) (.v 22) (.v 8))), (.di 46 (.ite (.v 15) (.v 25) (.v 9))), (.db 35 (.ite (.v 11) (.v 12) (.v 1))), (.db 36 (.ite (.v 11) (.v 13) (.v 2))), (.db 37 (.ite (.v 11) (.v 3) (.v 29))), (.di 47 (.ite (.v 11) (.v 18) (.v 0))), (.db 38 (.ite (.v 11) (.v 14) (.v 30))), (.db 39 (.ite (.v 11) (.v 5) (.v 31))), (.di 48 (.ite (.v 11) (.v 3) (.v 42))), (.di 49 (.ite (.v 11) (.v 13) (.v 4))), (.di 50 (.ite (.v 11) (.v 5) (.v 43))), (.di 51 (.ite (.v 11) (.v 6) (.v 44))), (.db 40 (.ite (.v 11) (.v 6) (.v 32))), (.db 41 (.ite (.v 11) (.v 7) (.v 33))), (.db 42 (.ite (.v 11) (.v 8) (.v 34))), (.di 52 (.ite (.v 11) (.v 8) (.v 45))), (.di 53 (.ite (.v 11) (.v 9) (.v 46))), (.db 43 (.not (.v 10))), (.db 44 (.ite (.v 43) (.v 35) (.v 1))), (.db 45 (.ite (.v 43) (.v 36) (.v 2))), (.db 46 (.ite (.v 43) (.v 37) (.v 3))), (.di 54 (.ite (.v 43) (.v 47) (.v 0))), (.db 47 (.ite (.v 43) (.v 38) (.v 4))), (.db 48 (.ite (.v 43) (.v 39) (.v 5))), (.di 55 (.ite (.v 43) (.v 48) (.v 3))), (.di 56 (.ite (.v 43) (.v 49) (.v 4))), (.di 57 (.ite (.v 43) (.v 50) (.v 5))), (.di 58 (.ite (.v 43) (.v 51) (.v 6))), (.db 49 (.ite (.v 43) (.v 40) (.v 6))), (.db 50 (.ite (.v 43) (.v 41) (.v 7))), (.db 51 (.ite (.v 43) (.v 42) (.v 8))), (.di 59 (.ite (.v 43) (.v 52) (.v 8))), (.di 60 (.ite (.v 43) (.v 53) (.v 9)))] [(.v 54), (.v 1), (.v 2), (.v 55), (.v 56), (.v 57), (.v 58), (.v 7), (.v 59), (.v 60), (.v 10)] [(.v 0), (.v 44), (.v 45), (.v 46), (.v 47), (.v 48), (.v 49), (.v 50), (.v 51)])
theorem k61 : fnX Tryd.prog (tabS T38) gl (ctlOf Tryd.f61 gl s61) Tryd.f61 s61 = some S61 := by kernel_rfl
noncomputable def F61 : Fun := S61.run (tabF T38) true
theorem x61 : AllOk Tryd.prog (tabF T38) gl (tabS T38) := A38
theorem y61 : LoopsOk (tabF T38) (ctlOf Tryd.f61 gl s61) := (LoopsOk.nil rfl)
theorem z61 : (wsEm S61.em (argI s61.args) (argB s61.args) && shOk s61 && s61.pre) = true := by kernel_rfl
theorem d61 : Contract Tryd.prog gl 61 s61 (S61.run (tabF T38) s61.pre) := contract_pre x61 Tryd.func61 y61 k61 z61
theorem c61 : Contract Tryd.prog gl 61 s61 F61 := d61
theorem call61 : ∀ args w, (callFunc 61 args).run Tryd.prog w = .ok (.enter 61 args) w := callable_of Tryd.func61 (by kernel_rfl) (by kernel_rfl)
noncomputable def e61 : Nat × Sum × Fun := (61, s61, F61)
noncomputable def T39 : List (Nat × Sum × Fun) := e61 :: T38
theorem A39 : AllOk Tryd.prog (tabF T39) gl (tabS T39) := AllOk.cons (s := e61.2.1) c61 call61 (fun S h => by cases h) A38
/-! seepage/tone.PulseTick -/
def s60 : Sum := { args := [(.val true [.bool, .bool, .bool, .bool, (.int .u8), (.int .u8), (.int .u8), .bool, .bool, (.int .u8), (.int .u8), (.int .u8), (.int .u16), (.int .u16), .bool, .bool, .bool, (.int .u8), (.int .u8), (.int .u8)])], tup := false, res := [(true, [.bool, .bool, .bool, .bool, (.int .u8), (.int .u8), (.int .u8), .bool, .bool, (.int .u8), (.int .u8), (.int .u8), (.int .u16), (.int .u16), .bool, .bool, .bool, (.int .u8), (.int .u8), (.int .u8)])], pre := false }
def S60 : Smry := (.mk [(.call 68 [(.v 0), (.v 1), (.v 2), (.v 3), (.v 4), (.v 5), (.v 6), (.v 7), (.v 8), (.v 9), (.v 10)] [(.v 0), (.v 1), (.v 2), (.v 3), (.v 4), (.v 5), (.v 6), (.v 7), (.v 8)] 11 0 9 1), (.db 10 (.not (.v 9))), (.db 11 (.cm .gtr (.v 7) (.c 0))), (.di 11 (.ar .sub .u16 (.v 7) (.c 1))), (.di 12 (.ar .sub .u8 (.v 5) (.c 1))), (.di 13 (.ar .and .u8 (.v 12) (.c 7))), (.di 14 (.ite (.v 11) (.v 5) (.v 13))), (.di 15 (.ite (.v 11) (.v 11) (.v 6))), (.di 16 (.ite (.v 10) (.v 5) (.v 14))), (.di 17 (.ite (.v 10) (.v 7) (.v 15)))] [(.v 0), (.v 1), (.v 2), (.v 3), (.v 4), (.v 16), (.v 6), (.v 17), (.v 8), (.v 9), (.v 10)] [(.v 0), (.v 1), (.v 2), (.v 3), (.v 4), (.v 5), (.v 6), (.v 7), (.v 8)])
theorem k60 : fnX Tryd.prog (tabS T39) gl (ctlOf Tryd.f60 gl s60) Tryd.f60 s60 = some S60 := by kernel_rfl
noncomputable def F60 : Fun := S60.run (tabF T39) false
theorem x60 : AllOk Tryd.prog (tabF T39) gl (tabS T39) := A39
theorem y60 : LoopsOk (tabF T39) (ctlOf Tryd.f60 gl s60) := (LoopsOk.nil rfl)
theorem z60 : (wsEm S60.em (argI s60.args) (argB s60.args) && shOk s60 && noOb S60.em) = true := by kernel_rfl
theorem d60 : Contract Tryd.prog gl 60 s60 (S60.run (tabF T39) s60.pre) := contract_of x60 Tryd.func60 y60 k60 z60
theorem c60 : Contract Tryd.prog gl 60 s60 F60 := d60
theorem call60 : ∀ args w, (callFunc 60 args).run Tryd.prog w = .ok (.enter 60 args) w := callable_of Tryd.func60 (by kernel_rfl) (by kernel_rfl)
noncomputable def e60 : Nat × Sum × Fun := (60, s60, F60)
noncomputable def T40 : List (Nat × Sum × Fun) := e60 :: T39
theorem A40 : AllOk Tryd.prog (tabF T40) gl (tabS T40) := AllOk.cons (s := e60.2.1) c60 call60 (fun S h => by cases h) A39
/-! seepage/seepageref18.PulseTick -/
def s62 : Sum := { args := [(.val true [.bool, .bool, .bool, .bool, (.int .u8), (.int .u8), (.int .u8), .bool, .bool, (.int .u8), (.int .u8), (.int .u8), (.int .u16), (.int .u16), .bool, .bool, .bool, (.int .u8), (.int .u8), (.int .u8)])], tup := false, res := [(true, [.bool, .bool, .bool, .bool, (.int .u8), (.int .u8), (.int .u8), .bool, .bool, (.int .u8), (.int .u8), (.int .u8), (.int .u16), (.int .u16), .bool, .bool, .bool, (.int .u8), (.int .u8), (.int .u8)])], pre := false }
def S62 : Smry := (.mk [(.call 37 [(.v 0), (.v 1), (.v 2), (.v 3), (.v 4), (.v 5), (.v 6), (.v 7), (.v 8), (.v 9), (.v 10)] [(.v 0), (.v 1), (.v 2), (.v 3), (.v 4), (.v 5), (.v 6), (.v 7), (.v 8)] 11 0 9 1), (.db 10 (.not (.v 9))), (.db 11 (.cm .neq (.v 7) (.c 0))), (.di 11 (.ar .sub .u16 (.v 7) (.c 1))), (.di 12 (.ar .add .u8 (.v 5) (.c 7))), (.di 13 (.ar .rem .u8 (.v 12) (.c 8))), (.db 12 (.not (.v 11))), (.di 14 (.ite (.v 12) (.v 13) (.v 5))), (.di 15 (.ite (.v 12) (.v 6) (.v 11))), (.db 13 (.not (.v 10))), (.di 16 (.ite (.v 13) (.v 14) (.v 5))), (.di 17 (.ite (.v 13) (.v 15) (.v 7)))] [(.v 0), (.v 1), (.v 2), (.v 3), (.v 4), (.v 16), (.v 6), (.v 17), (.v 8), (.v 9), (.v 10)] [(.v 0), (.v 1), (.v 2), (.v 3), (.v 4), (.v 5), (.v 6), (.v 7), (.v 8)])
theorem k62 : fnX Tryd.prog (tabS T40) gl (ctlOf Tryd.f62 gl s62) Tryd.f62 s62 = some S62 := by kernel_rfl
noncomputable def F62 : Fun := S62.run (tabF T40) false
theorem x62 : AllOk Tryd.prog (tabF T40) gl (tabS T40) := A40
theorem y62 : LoopsOk (tabF T40) (ctlOf Tryd.f62 gl s62) := (LoopsOk.nil rfl)
theorem z62 : (wsEm S62.em (argI s62.args) (argB s62.args) && shOk s62 && noOb S62.em) = true := by kernel_rfl
theorem d62 : Contract Tryd.prog gl 62 s62 (S62.run (tabF T40) s62.pre) := contract_of x62 Tryd.func62 y62 k62 z62
theorem c62 : Contract Tryd.prog gl 62 s62 F62 := d62
theorem call62 : ∀ args w, (callFunc 62 args).run Tryd.prog w = .ok (.enter 62 args) w := callable_of Tryd.func62 (by kernel_rfl) (by kernel_rfl)
noncomputable def e62 : Nat × Sum × Fun := (62, s62, F62)
noncomputable def T41 : List (Nat × Sum × Fun) := e62 :: T40
theorem A41 : AllOk Tryd.prog (tabF T41) gl (tabS T41) := AllOk.cons (s := e62.2.1) c62 call62 (fun S h => by cases h) A40
/-! seepage/tone.PulseQuarter -/
def s63 : Sum := { args := [(.val true [.bool, .bool, .bool, .bool, (.int .u8), (.int .u8), (.int .u8), .bool, .bool, (.int .u8), (.int .u8), (.int .u8), (.int .u16), (.int .u16), .bool, .bool, .bool, (.int .u8), (.int .u8), (.int .u8)])], tup := false, res := [(true, [.bool, .bool, .bool, .bool, (.int .u8), (.int .u8), (.int .u8), .bool, .bool, (.int .u8), (.int .u8), (.int .u8), (.int .u16), (.int .u16), .bool, .bool, .bool, (.int .u8), (.int .u8), (.int .u8)])], pre := false }
def S63 : Smry := (.mk [(.call 68 [(.v 0), (.v 1), (.v 2), (.v 3), (.v 4), (.v 5), (.v 6), (.v 7), (.v 8), (.v 9), (.v 10)] [(.v 0), (.v 1), (.v 2), (.v 3), (.v 4), (.v 5), (.v 6), (.v 7), (.v 8)] 11 0 9 1), (.call 40 [(.v 0), (.v 1), (.v 2)] [(.v 1), (.v 2), (.v 3)] 11 3 10 3), (.db 13 (.ite (.v 9) (.v 10) (.v 1))), (.db 14 (.ite (.v 9) (.v 11) (.v 2))), (.db 15 (.ite (.v 9) (.v 12) (.v 3))), (.di 14 (.ite (.v 9) (.v 11) (.v 0))), (.di 15 (.ite (.v 9) (.v 12) (.v 1))), (.di 16 (.ite (.v 9) (.v 13) (.v 2)))] [(.v 14), (.v 15), (.v 16), (.v 3), (.v 4), (.v 5), (.v 6), (.v 7), (.v 8), (.v 9), (.v 10)] [(.v 0), (.v 13), (.v 14), (.v 15), (.v 4), (.v 5), (.v 6), (.v 7), (.v 8)])
theorem k63 : fnX Tryd.prog (tabS T41) gl (ctlOf Tryd.f63 gl s63) Tryd.f63 s63 = some S63 := by kernel_rfl
noncomputable def F63 : Fun := S63.run (tabF T41) false
theorem x63 : AllOk Tryd.prog (tabF T41) gl (tabS T41) := A41
theorem y63 : LoopsOk (tabF T41) (ctlOf Tryd.f63 gl s63) := (LoopsOk.nil rfl)
theorem z63 : (wsEm S63.em (argI s63.args) (argB s63.args) && shOk s63 && noOb S63.em) = true := by kernel_rfl
theorem d63 : Contract Tryd.prog gl 63 s63 (S63.run (tabF T41) s63.pre) := contract_of x63 Tryd.func63 y63 k63 z63
theorem c63 : Contract Tryd.prog gl 63 s63 F63 := d63
theorem call63 : ∀ args w, (callFunc 63 args).run Tryd.prog w = .ok (.enter 63 args) w := callable_of Tryd.func63 (by kernel_rfl) (by kernel_rfl)
noncomputable def e63 : Nat × Sum × Fun := (63, s63, F63)
noncomputable def T42 : List (Nat × Sum × Fun) := e63 :: T41
theorem A42 : AllOk Tryd.prog (tabF T42) gl (tabS T42) := AllOk.cons (s := e63.2.1) c63 call63 (fun S h => by cases h) A41
/-! seepage/tone.PulseHalf -/
def s35 : Sum := { args := [(.val true [.bool, .bool, .bool, .bool, (.int .u8), (.int .u8), (.int .u8), .bool, .bool, (.int .u8), (.int .u8), (.int .u8), (.int .u16), (.int .u16), .bool, .bool, .bool, (.int .u8), (.int .u8), (.int .u8)])], tup := false, res := [(true, [.bool, .bool, .bool, .bool, (.int .u8), (.int .u8), (.int .u8), .bool, .bool, (.int .u8), (.int .u8), (.int .u8), (.int .u16), (.int .u16), .bool, .bool, .bool, (.int .u8), (.int .u8), (.int .u8)])], pre := true }
def S35 : Smry := (.mk [(.call 68 [(.v 0), (.v 1), (.v 2), (.v 3), (.v 4), (.v 5), (.v 6), (.v 7), (.v 8), (.v 9), (.v 10)] [(.v 0), (.v 1), (.v 2), (.v 3), (.v 4), (.v 5), (.v 6), (.v 7), (.v 8)] 11 0 9 1), (.db 10 (.not (.v 9))), (.call 42 [(.v 3)] [(.v 4), (.v 5)] 11 1 11 2), (.db 13 (.cm .eql (.v 10) (.c 0))), (.db 14 (.and (.v 13) (.v 6))), (.db 15 (.cm .gtr (.v 9) (.c 0))), (.db 16 (.and (.v 14) (.v 15))), (.call 74 [(.v 0), (.v 1), (.v 2), (.v 11), (.v 4), (.v 5), (.v 6), (.v 7), (.v 8), (.v 9), (.v 10)] [(.v 0), (.v 1), (.v 2), (.v 3), (.v 11), (.v 12), (.v 6), (.v 7), (.v 8)] 12 0 17 2), (.ob [((.v 10), false), ((.v 16), true)] (.v 17)), (.db 19 (.not (.v 18))), (.db 20 (.and (.v 16) (.v 19))), (.call 75 [(.v 0), (.v 1), (.v 2), (.v 11), (.v 4), (.v 5), (.v 6), (.v 7), (.v 8), (.v 9), (.v 10)] [(.v 0), (.v 1), (.v 2), (.v 3), (.v 11), (.v 12), (.v 6), (.v 7), (.v 8)] 12 1 21 1), (.ob [((.v 10), false), ((.v 20), true)] (.v 21)), (.di 13 (.ite (.v 20) (.v 12) (.v 6))), (.db 22 (.cm .eql (.v 10) (.c 0))), (.db 23 (.or (.v 22) (.v 8))), (.di 14 (.ar .sub .u8 (.v 10) (.c 1))), (.db 24 (.ite (.v 23) (.c false) (.v 8))), (.di 15 (.ite (.v 23) (.v 8) (.v 14))), (.db 25 (.not (.v 10))), (.db 26 (.ite (.v 25) (.v 11) (.v 4))), (.db 27 (.ite (.v 25) (.v 12) (.v 5))), (.di 16 (.ite (.v 25) (.v 11) (.v 3))), (.di 17 (.ite (.v 25) (.v 13) (.v 6))), (.db 28 (.ite (.v 25) (.v 24) (.v 8))), (.di 18 (.ite (.v 25) (.v 15) (.v 10)))] [(.v 0), (.v 1), (.v 2), (.v 16), (.v 4), (.v 5), (.v 17), (.v 7), (.v 8), (.v 9), (.v 18)] [(.v 0), (.v 1), (.v 2), (.v 3), (.v 26), (.v 27), (.v 6), (.v 7), (.v 28)])
theorem k35 : fnX Tryd.prog (tabS T42) gl (ctlOf Tryd.f35 gl s35) Tryd.f35 s35 = some S35 := by kernel_rfl
noncomputable def F35 : Fun := S35.run (tabF T42) true
theorem x35 : AllOk Tryd.prog (tabF T42) gl (tabS T42) := A42
theorem y35 : LoopsOk (tabF T42) (ctlOf Tryd.f35 gl s35) := (LoopsOk.nil rfl)
theorem z35 : (wsEm S35.em (argI s35.args) (argB s35.args) && shOk s35 && s35.pre) = true := by kernel_rfl
theorem d35 : Contract Tryd.prog gl 35 s35 (S35.run (tabF T42) s35.pre) := contract_pre x35 Tryd.func35 y35 k35 z35
theorem c35 : Contract Tryd.prog gl 35 s35 F35 := d35
theorem call35 : ∀ args w, (callFunc 35 args).run Tryd.prog w = .ok (.enter 35 args) w := callable_of Tryd.func35 (by kernel_rfl) (by kernel_rfl)
noncomputable def e35 : Nat × Sum × Fun := (35, s35, F35)
noncomputable def T43 : List (Nat × Sum × Fun) := e35 :: T42
theorem A43 : AllOk Tryd.prog (tabF T43) gl (tabS T43) := AllOk.cons (s := e35.2.1) c35 call35 (fun S h => by cases h) A42
/-! seepage/seepageref18.Target -/
def s84 : Sum := { args := [(.val true [.bool, .bool, .bool, .bool, (.int .u8), (.int .u8), (.int .u8), .bool, .bool, (.int .u8), (.int .u8), (.int .u8), (.int .u16), (.int .u16), .bool, .bool, .bool, (.int .u8), (.int .u8), (.int .u8)])], tup := false, res := [(false, [(.int .i64)])], pre := true }
def S84 : Smry := (.mk [(.di 11 (.cv .i64 (.v 6))), (.call 108400 [(.v 9), (.v 11), (.c 0)] [] 12 2 9 2), (.ob [] (.v 9)), (.db 11 (.not (.v 7))), (.di 14 (.ar .add .i64 (.v 11) (.v 12))), (.db 12 (.not (.v 0))), (.di 15 (.ar .add .i64 (.v 12) (.c 1))), (.di 16 (.ite (.v 12) (.v 15) (.v 12))), (.di 17 (.ar .sub .i64 (.v 11) (.v 16))), (.di 18 (.mx (.v 17) (.c 0))), (.db 13 (.not (.v 11))), (.di 19 (.ite (.v 13) (.v 18) (.v 14)))] [(.v 19)] [])
def L108400 : LAnn := { id := 108400, ga := [9], gb := [], hv := [4, 5], dr := [6, 7, 8, 9, 10, 11, 12, 14, 15, 16, 17, 18, 19, 21, 22, 23, 24, 25, 27, 28, 29, 30, 31, 32], hb := [], db := [], xs := [2, 4, 5], xb := [], nI := 3, nB := 0, S := (.mk [(.db 0 (.cm .lss (.v 2) (.v 0))), (.di 3 (.ar .quo .i64 (.v 1) (.c 2))), (.di 4 (.ar .add .u8 (.v 2) (.c 1))), (.db 1 (.not (.v 0)))] [(.v 0), (.v 3), (.v 4), (.v 1), (.v 2)] [(.v 0), (.v 1)]) }
def l84 : List (Nat × LAnn) := [(5, L108400)]
theorem k84 : fnX Tryd.prog (tabS T43) gl (ctlL Tryd.f84 gl s84 l84) Tryd.f84 s84 = some S84 := by kernel_rfl
noncomputable def F84 : Fun := S84.run (lpF (l84.map (·.2)) (tabF T43)) true
theorem x84 : AllOk Tryd.prog (lpF (l84.map (·.2)) (tabF T43)) gl (tabS T43) := (AllOk.loops (l := l84.map (·.2)) A43 (by kernel_rfl))
theorem y84 : LoopsOk (lpF (l84.map (·.2)) (tabF T43)) (ctlL Tryd.f84 gl s84 l84) := (LoopsOk.of (fn := Tryd.f84) (gl := gl) (s := s84) (l := l84) (by kernel_rfl))
theorem z84 : (wsEm S84.em (argI s84.args) (argB s84.args) && shOk s84 && s84.pre) = true := by kernel_rfl
theorem d84 : Contract Tryd.prog gl 84 s84 (S84.run (lpF (l84.map (·.2)) (tabF T43)) s84.pre) := contract_pre x84 Tryd.func84 y84 k84 z84
theorem c84 : Contract Tryd.prog gl 84 s84 F84 := d84
theorem call84 : ∀ args w, (callFunc 84 args).run Tryd.prog w = .ok (.enter 84 args) w := callable_of Tryd.func84 (by kernel_rfl) (by kernel_rfl)
noncomputable def e84 : Nat × Sum × Fun := (84, s84, F84)
noncomputable def T44 : List (Nat × Sum × Fun) := e84 :: T43
theorem A44 : AllOk Tryd.prog (tabF T44) gl (tabS T44) := AllOk.cons (s := e84.2.1) c84 call84 (fun S h => by cases h) A43
/-! seepage/seepageref18.mute -/
def s83 : Sum := { args := [(.val true [.bool, .bool, .bool, .bool, (.int .u8), (.int .u8), (.int .u8), .bool, .bool, (.int .u8), (.int .u8), (.int .u8), (.int .u16), (.int .u16), .bool, .bool, .bool, (.int .u8), (.int .u8), (.int .u8)])], tup := false, res := [(false, [.bool])], pre := true }
def S83 : Smry := (.mk [(.db 9 (.cm .lss (.v 6) (.c 8))), (.call 84 [(.v 0), (.v 1), (.v 2), (.v 3), (.v 4), (.v 5), (.v 6), (.v 7), (.v 8), (.v 9), (.v 10)] [(.v 0), (.v 1), (.v 2), (.v 3), (.v 4), (.v 5), (.v 6), (.v 7), (.v 8)] 11 1 10 1), (.ob [((.v 9), false)] (.v 10)), (.db 11 (.cm .gtr (.v 11) (.c 2047))), (.db 12 (.or (.v 9) (.v 11)))] [] [(.v 12)])
theorem k83 : fnX Tryd.prog (tabS T44) gl (ctlOf Tryd.f83 gl s83) Tryd.f83 s83 = some S83 := by kernel_rfl
noncomputable def F83 : Fun := S83.run (tabF T44) true
theorem x83 : AllOk Tryd.prog (tabF T44) gl (tabS T44) := A44
theorem y83 : LoopsOk (tabF T44) (ctlOf Tryd.f83 gl s83) := (LoopsOk.nil rfl)
theorem z83 : (wsEm S83.em (argI s83.args) (argB s83.args) && shOk s83 && s83.pre) = true := by kernel_rfl
theorem d83 : Contract Tryd.prog gl 83 s83 (S83.run (tabF T44) s83.pre) := contract_pre x83 Tryd.func83 y83 k83 z83
theorem c83 : Contract Tryd.prog gl 83 s83 F83 := d83
theorem call83 : ∀ args w, (callFunc 83 args).run Tryd.prog w = .ok (.enter 83 args) w := callable_of Tryd.func83 (by kernel_rfl) (by kernel_rfl)
noncomputable def e83 : Nat × Sum × Fun := (83, s83, F83)
noncomputable def T45 : List (Nat × Sum × Fun) := e83 :: T44
theorem A45 : AllOk Tryd.prog (tabF T45) gl (tabS T45) := AllOk.cons (s := e83.2.1) c83 call83 (fun S h => by cases h) A44
/-! seepage/seepageref18.PulseHalf -/
def s64 : Sum := { args := [(.val true [.bool, .bool, .bool, .bool, (.int .u8), (.int .u8), (.int .u8), .bool, .bool, (.int .u8), (.int .u8), (.int .u8), (.int .u16), (.int .u16), .bool, .bool, .bool, (.int .u8), (.int .u8), (.int .u8)])], tup := false, res := [(true, [.bool, .bool, .bool, .bool, (.int .u8), (.int .u8), (.int .u8), .bool, .bool, (.int .u8), (.int .u8), (.int .u8), (.int .u16), (.int .u16), .bool, .bool, .bool, (.int .u8), (.int .u8), (.int .u8)])], pre := true }
def S64 : Smry := (.mk [(.call 37 [(.v 0), (.v 1), (.v 2), (.v 3), (.v 4), (.v 5), (.v 6), (.v 7), (.v 8), (.v 9), (.v 10)] [(.v 0), (.v 1), (.v 2), (.v 3), (.v 4), (.v 5), (.v 6), (.v 7), (.v 8)] 11 0 9 1), (.db 10 (.not (.v 9))), (.call 43 [(.v 3)] [(.v 4), (.v 5)] 11 1 11 2), (.db 13 (.cm .eql (.v 10) (.c 0))), (.db 14 (.and (.v 13) (.v 6))), (.db 15 (.cm .neq (.v 9) (.c 0))), (.db 16 (.and (.v 14) (.v 15))), (.call 83 [(.v 0), (.v 1), (.v 2), (.v 11), (.v 4), (.v 5), (.v 6), (.v 7), (.v 8), (.v 9), (.v 10)] [(.v 0), (.v 1), (.v 2), (.v 3), (.v 11), (.v 12), (.v 6), (.v 7), (.v 8)] 12 0 17 2), (.ob [((.v 10), false), ((.v 16), true)] (.v 17)), (.db 19 (.not (.v 18))), (.db 20 (.and (.v 16) (.v 19))), (.call 84 [(.v 0), (.v 1), (.v 2), (.v 11), (.v 4), (.v 5), (.v 6), (.v 7), (.v 8), (.v 9), (.v 10)] [(.v 0), (.v 1), (.v 2), (.v 3), (.v 11), (.v 12), (.v 6), (.v 7), (.v 8)] 12 1 21 1), (.ob [((.v 10), false), ((.v 20), true)] (.v 21)), (.di 13 (.cv .u16 (.v 12))), (.di 14 (.ite (.v 20) (.v 13) (.v 6))), (.db 22 (.or (.v 13) (.v 8))), (.di 15 (.ar .sub .u8 (.v 10) (.c 1))), (.db 23 (.ite (.v 22) (.c false) (.v 8))), (.di 16 (.ite (.v 22) (.v 8) (.v 15))), (.db 24 (.not (.v 10))), (.db 25 (.ite (.v 24) (.v 11) (.v 4))), (.db 26 (.ite (.v 24) (.v 12) (.v 5))), (.di 17 (.ite (.v 24) (.v 11) (.v 3))), (.di 18 (.ite (.v 24) (.v 14) (.v 6))), (.db 27 (.ite (.v 24) (.v 23) (.v 8))), (.di 19 (.ite (.v 24) (.v 16) (.v 10)))] [(.v 0), (.v 1), (.v 2), (.v 17), (.v 4), (.v 5), (.v 18), (.v 7), (.v 8), (.v 9), (.v 19)] [(.v 0), (.v 1), (.v 2), (.v 3), (.v 25), (.v 26), (.v 6), (.v 7), (.v 27)])
theorem k64 : fnX Tryd.prog (tabS T45) gl (ctlOf Tryd.f64 gl s64) Tryd.f64 s64 = some S64 := by kernel_rfl
noncomputable def F64 : Fun := S64.run (tabF T45) true
theorem x64 : AllOk Tryd.prog (tabF T45) gl (tabS T45) := A45
theorem y64 : LoopsOk (tabF T45) (ctlOf Tryd.f64 gl s64) := (LoopsOk.nil rfl)
theorem z64 : (wsEm S64.em (argI s64.args) (argB s64.args) && shOk s64 && s64.pre) = true := by kernel_rfl
theorem d64 : Contract Tryd.prog gl 64 s64 (S64.run (tabF T45) s64.pre) := contract_pre x64 Tryd.func64 y64 k64 z64
theorem c64 : Contract Tryd.prog gl 64 s64 F64 := d64
theorem call64 : ∀ args w, (callFunc 64 args).run Tryd.prog w = .ok (.enter 64 args) w := callable_of Tryd.func64 (by kernel_rfl) (by kernel_rfl)
noncomputable def e64 : Nat × Sum × Fun := (64, s64, F64)
noncomputable def T46 : List (Nat × Sum × Fun) := e64 :: T45
theorem A46 : AllOk Tryd.prog (tabF T46) gl (tabS T46) := AllOk.cons (s := e64.2.1) c64 call64 (fun S h => by cases h) A45
/-! seepage/seepageref18.heard -/
def s85 : Sum := { args := [(.val false [(.int .u8)]), (.val false [(.int .u8)])], tup := false, res := [(false, [.bool])], pre := false }
def S85 : Smry := (.mk [(.db 0 (.cm .eql (.v 0) (.c 0))), (.db 1 (.cm .eql (.v 1) (.c 1))), (.db 2 (.cm .eql (.v 0) (.c 1))), (.db 3 (.cm .eql (.v 1) (.c 1))), (.db 4 (.cm .eql (.v 1) (.c 2))), (.db 5 (.or (.v 3) (.v 4))), (.db 6 (.cm .eql (.v 0) (.c 2))), (.db 7 (.cm .geq (.v 1) (.c 1))), (.db 8 (.cm .leq (.v 1) (.c 4))), (.db 9 (.and (.v 7) (.v 8))), (.db 10 (.or (.v 2) (.v 6))), (.db 11 (.ite (.v 2) (.v 5) (.v 9))), (.db 12 (.or (.v 0) (.v 10))), (.db 13 (.ite (.v 0) (.v 1) (.v 11))), (.db 14 (.cm .neq (.v 1) (.c 1))), (.db 15 (.cm .neq (.v 1) (.c 2))), (.db 16 (.and (.v 14) (.v 15))), (.db 17 (.not (.v 0))), (.db 18 (.not (.v 2))), (.db 19 (.not (.v 6))), (.db 20 (.and (.v 18) (.v 19))), (.db 21 (.and (.v 17) (.v 20))), (.db 22 (.ite (.v 21) (.v 16) (.v 13)))] [] [(.v 22)])
theorem k85 : fnX Tryd.prog (tabS T46) gl (ctlOf Tryd.f85 gl s85) Tryd.f85 s85 = some S85 := by kernel_rfl
noncomputable def F85 : Fun := S85.run (tabF T46) false
theorem x85 : AllOk Tryd.prog (tabF T46) gl (tabS T46) := A46
theorem y85 : LoopsOk (tabF T46) (ctlOf Tryd.f85 gl s85) := (LoopsOk.nil rfl)
theorem z85 : (wsEm S85.em (argI s85.args) (argB s85.args) && shOk s85 && noOb S85.em) = true := by kernel_rfl
theorem d85 : Contract Tryd.prog gl 85 s85 (S85.run (tabF T46) s85.pre) := contract_of x85 Tryd.func85 y85 k85 z85
theorem c85 : Contract Tryd.prog gl 85 s85 F85 := d85
theorem call85 : ∀ args w, (callFunc 85 args).run Tryd.prog w = .ok (.enter 85 args) w := callable_of Tryd.func85 (by kernel_rfl) (by kernel_rfl)
noncomputable def e85 : Nat × Sum × Fun := (85, withInl s85 S85, F85)
noncomputable def T47 : List (Nat × Sum × Fun) := e85 :: T46
theorem A47 : AllOk Tryd.prog (tabF T47) gl (tabS T47) := AllOk.cons (s := e85.2.1) c85 call85 (fun S h => by cases h; exact ⟨rfl, fun _ _ => rfl⟩) A46
/-! seepage/seepageref18.level -/
def s82 : Sum := { args := [(.val true [.bool, .bool, .bool, (.int .u8), (.int .u8), (.int .u8)])], tup := false, res := [(false, [(.int .u8)])], pre := false }
def S82 : Smry := (.mk [(.db 3 (.not (.v 1))), (.di 3 (.ite (.v 3) (.v 2) (.v 0)))] [(.v 3)] [])
theorem k82 : fnX Tryd.prog (tabS T47) gl (ctlOf Tryd.f82 gl s82) Tryd.f82 s82 = some S82 := by kernel_rfl
noncomputable def F82 : Fun := S82.run (tabF T47) false
theorem x82 : AllOk Tryd.prog (tabF T47) gl (tabS T47) := A47
theorem y82 : LoopsOk (tabF T47) (ctlOf Tryd.f82 gl s82) := (LoopsOk.nil rfl)
theorem z82 : (wsEm S82.em (argI s82.args) (argB s82.args) && shOk s82 && noOb S82.em) = true := by kernel_rfl
theorem d82 : Contract Tryd.prog gl 82 s82 (S82.run (tabF T47) s82.pre) := contract_of x82 Tryd.func82 y82 k82 z82
theorem c82 : Contract Tryd.prog gl 82 s82 F82 := d82
theorem call82 : ∀ args w, (callFunc 82 args).run Tryd.prog w = .ok (.enter 82 args) w := callable_of Tryd.func82 (by kernel_rfl) (by kernel_rfl)
noncomputable def e82 : Nat × Sum × Fun := (82, withInl s82 S82, F82)
noncomputable def T48 : List (Nat × Sum × Fun) := e82 :: T47
theorem A48 : AllOk Tryd.prog (tabF T48) gl (tabS T48) := AllOk.cons (s := e82.2.1) c82 call82 (fun S h => by cases h; exact ⟨rfl, fun _ _ => rfl⟩) A47
/-! seepage/seepageref18.PulseOut -/
def s65 : Sum := { args := [(.val true [.bool, .bool, .bool, .bool, (.int .u8), (.int .u8), (.int .u8), .bool, .bool, (.int .u8), (.int .u8), (.int .u8), (.int .u16), (.int .u16), .bool, .bool, .bool, (.int .u8), (.int .u8), (.int .u8)])], tup := false, res := [(false, [(.int .u8)])], pre := true }
def S65 : Smry := (.mk [(.call 37 [(.v 0), (.v 1), (.v 2), (.v 3), (.v 4), (.v 5), (.v 6), (.v 7), (.v 8), (.v 9), (.v 10)] [(.v 0), (.v 1), (.v 2), (.v 3), (.v 4), (.v 5), (.v 6), (.v 7), (.v 8)] 11 0 9 1), (.db 10 (.not (.v 9))), (.db 11 (.cm .eql (.v 3) (.c 0))), (.db 12 (.or (.v 10) (.v 11))), (.call 83 [(.v 0), (.v 1), (.v 2), (.v 3), (.v 4), (.v 5), (.v 6), (.v 7), (.v 8), (.v 9), (.v 10)] [(.v 0), (.v 1), (.v 2), (.v 3), (.v 4), (.v 5), (.v 6), (.v 7), (.v 8)] 11 0 13 2), (.ob [((.v 12), false)] (.v 13)), (.db 15 (.or (.v 12) (.v 14))), (.db 16 (.cm .eql (.v 4) (.c 0))), (.db 17 (.cm .eql (.v 5) (.c 1))), (.db 18 (.cm .eql (.v 4) (.c 1))), (.db 19 (.cm .eql (.v 5) (.c 1))), (.db 20 (.cm .eql (.v 5) (.c 2))), (.db 21 (.or (.v 19) (.v 20))), (.db 22 (.cm .eql (.v 4) (.c 2))), (.db 23 (.cm .geq (.v 5) (.c 1))), (.db 24 (.cm .leq (.v 5) (.c 4))), (.db 25 (.and (.v 23) (.v 24))), (.db 26 (.or (.v 18) (.v 22))), (.db 27 (.ite (.v 18) (.v 21) (.v 25))), (.db 28 (.or (.v 16) (.v 26))), (.db 29 (.ite (.v 16) (.v 17) (.v 27))), (.db 30 (.cm .neq (.v 5) (.c 1))), (.db 31 (.cm .neq (.v 5) (.c 2))), (.db 32 (.and (.v 30) (.v 31))), (.db 33 (.not (.v 16))), (.db 34 (.not (.v 18))), (.db 35 (.not (.v 22))), (.db 36 (.and (.v 34) (.v 35))), (.db 37 (.and (.v 33) (.v 36))), (.db 38 (.ite (.v 37) (.v 32) (.v 29))), (.db 39 (.not (.v 38))), (.db 40 (.or (.v 15) (.v 39))), (.db 41 (.not (.v 2))), (.di 11 (.ite (.v 41) (.v 2) (.v 0))), (.db 42 (.not (.v 40))), (.di 12 (.ite (.v 42) (.v 11) (.c 0)))] [(.v 12)] [])
theorem k65 : fnX Tryd.prog (tabS T48) gl (ctlOf Tryd.f65 gl s65) Tryd.f65 s65 = some S65 := by kernel_rfl
noncomputable def F65 : Fun := S65.run (tabF T48) true
theorem x65 : AllOk Tryd.prog (tabF T48) gl (tabS T48) := A48
theorem y65 : LoopsOk (tabF T48) (ctlOf Tryd.f65 gl s65) := (LoopsOk.nil rfl)
theorem z65 : (wsEm S65.em (argI s65.args) (argB s65.args) && shOk s65 && s65.pre) = true := by kernel_rfl
theorem d65 : Contract Tryd.prog gl 65 s65 (S65.run (tabF T48) s65.pre) := contract_pre x65 Tryd.func65 y65 k65 z65
theorem c65 : Contract Tryd.prog gl 65 s65 F65 := d65
theorem call65 : ∀ args w, (callFunc 65 args).run Tryd.prog w = .ok (.enter 65 args) w := callable_of Tryd.func65 (by kernel_rfl) (by kernel_rfl)
noncomputable def e65 : Nat × Sum × Fun := (65, s65, F65)
noncomputable def T49 : List (Nat × Sum × Fun) := e65 :: T48
theorem A49 : AllOk Tryd.prog (tabF T49) gl (tabS T49) := AllOk.cons (s := e65.2.1) c65 call65 (fun S h => by cases h) A48
/-! seepage/seepagelaw18.TonePulse -/
def s13 : Sum := { args := [(.val true [.bool, .bool, .bool, .bool, (.int .u8), (.int .u8), (.int .u8), .bool, .bool, (.int .u8), (.int .u8), (.int .u8), (.int .u16), (.int .u16), .bool, .bool, .bool, (.int .u8), (.int .u8), (.int .u8), .bool, .bool, (.int .u8), (.int .u8), (.int .u8), .bool, (.int .u8), (.int .u16), (.int .u16), .bool, .bool, .bool, (.int .u8), (.int .u8), (.int .u8), .bool, .bool, (.int .u8), .bool, (.int .u8), (.int .u16), (.int .u16), (.int .i64), (.int .u8)])], tup := false, res := [(false, [.bool])], pre := true }
def S13 : Smry := (.mk [(.call 41 [(.v 0), (.v 1), (.v 2)] [(.v 1), (.v 2), (.v 3)] 26 3 18 3), (.call 37 [(.v 0), (.v 1), (.v 2), (.v 3), (.v 4), (.v 5), (.v 6), (.v 7), (.v 8), (.v 9), (.v 10)] [(.v 0), (.v 1), (.v 2), (.v 3), (.v 4), (.v 5), (.v 6), (.v 7), (.v 8)] 29 0 21 1), (.db 22 (.not (.v 21))), (.db 23 (.ite (.v 22) (.v 1) (.v 18))), (.db 24 (.ite (.v 22) (.v 2) (.v 19))), (.db 25 (.ite (.v 22) (.v 3) (.v 20))), (.di 29 (.ite (.v 22) (.v 0) (.v 26))), (.di 30 (.ite (.v 22) (.v 1) (.v 27))), (.di 31 (.ite (.v 22) (.v 2) (.v 28))), (.call 32 [(.v 0), (.v 1), (.v 2), (.v 3), (.v 4), (.v 5), (.v 6), (.v 7), (.v 8), (.v 9), (.v 10), (.v 24), (.v 25)] [(.v 0), (.v 1), (.v 2), (.v 3), (.v 4), (.v 5), (.v 6), (.v 7), (.v 8)] 32 11 26 10), (.ob [] (.v 26)), (.call 61 [(.v 0), (.v 1), (.v 2), (.v 3), (.v 4), (.v 5), (.v 6), (.v 7), (.v 8), (.v 9), (.v 10), (.v 24), (.v 25)] [(.v 0), (.v 1), (.v 2), (.v 3), (.v 4), (.v 5), (.v 6), (.v 7), (.v 8)] 43 11 36 10), (.ob [] (.v 36)), (.db 46 (.eqb (.v 27) (.v 37))), (.db 47 (.eqb (.v 28) (.v 38))), (.db 48 (.eqb (.v 29) (.v 39))), (.db 49 (.eqb (.v 30) (.v 40))), (.db 50 (.cm .eql (.v 32) (.v 43))), (.db 51 (.cm .eql (.v 33) (.v 44))), (.db 52 (.cm .eql (.v 34) (.v 45))), (.db 53 (.and (.v 51) (.v 52))), (.db 54 (.and (.v 50) (.v 53))), (.db 55 (.and (.v 49) (.v 54))), (.db 56 (.and (.v 48) (.v 55))), (.db 57 (.and (.v 47) (.v 56))), (.db 58 (.eqb (.v 31) (.v 41))), (.db 59 (.eqb (.v 32) (.v 42))), (.db 60 (.cm .eql (.v 35) (.v 46))), (.db 61 (.and (.v 59) (.v 60))), (.db 62 (.and (.v 58) (.v 61))), (.db 63 (.cm .eql (.v 36) (.v 47))), (.db 64 (.cm .eql (.v 37) (.v 48))), (.db 65 (.cm .eql (.v 38) (.v 49))), (.db 66 (.cm .eql (.v 39) (.v 50))), (.db 67 (.eqb (.v 33) (.v 43))), (.db 68 (.eqb (.v 34) (.v 44))), (.db 69 (.eqb (.v 35) (.v 45))), (.db 70 (.cm .eql (.v 40) (.v 51))), (.db 71 (.cm .eql (.v 41) (.v 52))), (.db 72 (.cm .eql (.v 42) (.v 53))), (.db 73 (.and (.v 71) (.v 72))), (.db 74 (.and (.v 70) (.v 73))), (.db 75 (.and (.v 69) (.v 74))), (.db 76 (.and (.v 68) (.v 75))), (.db 77 (.and (.v 67) (.v 76))), (.db 78 (.and (.v 66) (.v 77))), (.db 79 (.and (.v 65) (.v 78))), (.db 80 (.and (.v 64) (.v 79))), (.db 81 (.and (.v 63) (.v 80))), (.db 82 (.and (.v 62) (.v 81))), (.db 83 (.and (.v 57) (.v 82))), (.db 84 (.and (.v 46) (.v 83))), (.call 60 [(.v 0), (.v 1), (.v 2), (.v 3), (.v 4), (.v 5), (.v 6), (.v 7), (.v 8), (.v 9), (.v 10)] [(.v 0), (.v 1), (.v 2), (.v 3), (.v 4), (.v 5), (.v 6), (.v 7), (.v 8)] 54 11 85 9), (.call 62 [(.v 0), (.v 1), (.v 2), (.v 3), (.v 4), (.v 5), (.v 6), (.v 7), (.v 8), (.v 9), (.v 10)] [(.v 0), (.v 1), (.v 2), (.v 3), (.v 4), (.v 5), (.v 6), (.v 7), (.v 8)] 65 11 94 9), (.db 103 (.eqb (.v 85) (.v 94))), (.db 104 (.eqb (.v 86) (.v 95))), (.db 105 (.eqb (.v 87) (.v 96))), (.db 106 (.eqb (.v 88) (.v 97))), (.db 107 (.cm .eql (.v 54) (.v 65))), (.db 108 (.cm .eql (.v 55) (.v 66))), (.db 109 (.cm .eql (.v 56) (.v 67))), (.db 110 (.and (.v 108) (.v 109))), (.db 111 (.and (.v 107) (.v 110))), (.db 112 (.and (.v 106) (.v 111))), (.db 113 (.and (.v 105) (.v 112))), (.db 114 (.and (.v 104) (.v 113))), (.db 115 (.eqb (.v 89) (.v 98))), (.db 116 (.eqb (.v 90) (.v 99))), (.db 117 (.cm .eql (.v 57) (.v 68))), (.db 118 (.and (.v 116) (.v 117))), (.db 119 (.and (.v 115) (.v 118))), (.db 120 (.cm .eql (.v 58) (.v 69))), (.db 121 (.cm .eql (.v 59) (.v 70))), (.db 122 (.cm .eql (.v 60) (.v 71))), (.db 123 (.cm .eql (.v 61) (.v 72))), (.db 124 (.eqb (.v 91) (.v 100))), (.db 125 (.eqb (.v 92) (.v 101))), (.db 126 (.eqb (.v 93) (.v 102))), (.db 127 (.cm .eql (.v 62) (.v 73))), (.db 128 (.cm .eql (.v 63) (.v 74))), (.db 129 (.cm .eql (.v 64) (.v 75))), (.db 130 (.and (.v 128) (.v 129))), (.db 131 (.and (.v 127) (.v 130))), (.db 132 (.and (.v 126) (.v 131))), (.db 133 (.and (.v 125) (.v 132))), (.db 134 (.and (.v 124) (.v 133))), (.db 135 (.and (.v 123) (.v 134))), (.db 136 (.and (.v 122) (.v 135))), (.db 137 (.and (.v 121) (.v 136))), (.db 138 (.and (.v 120) (.v 137))), (.db 139 (.and (.v 119) (.v 138))), (.db 140 (.and (.v 114) (.v 139))), (.db 141 (.and (.v 103) (.v 140))), (.db 142 (.and (.v 84) (.v 141))), (.call 63 [(.v 0), (.v 1), (.v 2), (.v 3), (.v 4), (.v 5), (.v 6), (.v 7), (.v 8), (.v 9), (.v 10)] [(.v 0), (.v 1), (.v 2), (.v 3), (.v 4), (.v 5), (.v 6), (.v 7), (.v 8)] 76 11 143 9), (.db 152 (.eqb (.v 143) (.v 0))), (.db 153 (.eqb (.v 144) (.v 23))), (.db 154 (.eqb (.v 145) (.v 24))), (.db 155 (.eqb (.v 146) (.v 25))), (.db 156 (.cm .eql (.v 76) (.v 29))), (.db 157 (.cm .eql (.v 77) (.v 30))), (.db 158 (.cm .eql (.v 78) (.v 31))), (.db 159 (.and (.v 157) (.v 158))), (.db 160 (.and (.v 156) (.v 159))), (.db 161 (.and (.v 155) (.v 160))), (.db 162 (.and (.v 154) (.v 161))), (.db 163 (.and (.v 153) (.v 162))), (.db 164 (.eqb (.v 147) (.v 4))), (.db 165 (.eqb (.v 148) (.v 5))), (.db 166 (.cm .eql (.v 79) (.v 3))), (.db 167 (.and (.v 165) (.v 166))), (.db 168 (.and (.v 164) (.v 167))), (.db 169 (.cm .eql (.v 80) (.v 4))), (.db 170 (.cm .eql (.v 81) (.v 5))), (.db 171 (.cm .eql (.v 82) (.v 6))), (.db 172 (.cm .eql (.v 83) (.v 7))), (.db 173 (.eqb (.v 149) (.v 6))), (.db 174 (.eqb (.v 150) (.v 7))), (.db 175 (.eqb (.v 151) (.v 8))), (.db 176 (.cm .eql (.v 84) (.v 8))), (.db 177 (.cm .eql (.v 85) (.v 9))), (.db 178 (.cm .eql (.v 86) (.v 10))), (.db 179 (.and (.v 177) (.v 178))), (.db 180 (.and (.v 176) (.v 179))), (.db 181 (.and (.v 175) (.v 180))), (.db 182 (.and (.v 174) (.v 181))), (.db 183 (.and (.v 173) (.v 182))), (.db 184 (.and (.v 172) (.v 183))), (.db 185 (.and (.v 171) (.v 184))), (.db 186 (.and (.v 170) (.v 185))), (.db 187 (.and (.v 169) (.v 186))), (.db 188 (.and (.v 168) (.v 187))), (.db 189 (.and (.v 163) (.v 188))), (.db 190 (.and (.v 152) (.v 189))), (.db 191 (.and (.v 142) (.v 190))), (.call 35 [(.v 0), (.v 1), (.v 2), (.v 3), (.v 4), (.v 5), (.v 6), (.v 7), (.v 8), (.v 9), (.v 10)] [(.v 0), (.v 1), (.v 2), (.v 3), (.v 4), (.v 5), (.v 6), (.v 7), (.v 8)] 87 11 192 10), (.ob [((.v 191), true)] (.v 192)), (.call 64 [(.v 0), (.v 1), (.v 2), (.v 3), (.v 4), (.v 5), (.v 6), (.v 7), (.v 8), (.v 9), (.v 10)] [(.v 0), (.v 1), (.v 2), (.v 3), (.v 4), (.v 5), (.v 6), (.v 7), (.v 8)] 98 11 202 10), (.ob [((.v 191), true)] (.v 202)), (.db 212 (.eqb (.v 193) (.v 203))), (.db 213 (.eqb (.v 194) (.v 204))), (.db 214 (.eqb (.v 195) (.v 205))), (.db 215 (.eqb (.v 196) (.v 206))), (.db 216 (.cm .eql (.v 87) (.v 98))), (.db 217 (.cm .eql (.v 88) (.v 99))), (.db 218 (.cm .eql (.v 89) (.v 100))), (.db 219 (.and (.v 217) (.v 218))), (.db 220 (.and (.v 216) (.v 219))), (.db 221 (.and (.v 215) (.v 220))), (.db 222 (.and (.v 214) (.v 221))), (.db 223 (.and (.v 213) (.v 222))), (.db 224 (.eqb (.v 197) (.v 207))), (.db 225 (.eqb (.v 198) (.v 208))), (.db 226 (.cm .eql (.v 90) (.v 101))), (.db 227 (.and (.v 225) (.v 226))), (.db 228 (.and (.v 224) (.v 227))), (.db 229 (.cm .eql (.v 91) (.v 102))), (.db 230 (.cm .eql (.v 92) (.v 103))), (.db 231 (.cm .eql (.v 93) (.v 104))), (.db 232 (.cm .eql (.v 94) (.v 105))), (.db 233 (.eqb (.v 199) (.v 209))), (.db 234 (.eqb (.v 200) (.v 210))), (.db 235 (.eqb (.v 201) (.v 211))), (.db 236 (.cm .eql (.v 95) (.v 106))), (.db 237 (.cm .eql (.v 96) (.v 107))), (.db 238 (.cm .eql (.v 97) (.v 108))), (.db 239 (.and (.v 237) (.v 238))), (.db 240 (.and (.v 236) (.v 239))), (.db 241 (.and (.v 235) (.v 240))), (.db 242 (.and (.v 234) (.v 241))), (.db 243 (.and (.v 233) (.v 242))), (.db 244 (.and (.v 232) (.v 243))), (.db 245 (.and (.v 231) (.v 244))), (.db 246 (.and (.v 230) (.v 245))), (.db 247 (.and (.v 229) (.v 246))), (.db 248 (.and (.v 228) (.v 247))), (.db 249 (.and (.v 223) (.v 248))), (.db 250 (.and (.v 212) (.v 249))), (.db 251 (.and (.v 191) (.v 250))), (.call 36 [(.v 0), (.v 1), (.v 2), (.v 3), (.v 4), (.v 5), (.v 6), (.v 7), (.v 8), (.v 9), (.v 10)] [(.v 0), (.v 1), (.v 2), (.v 3), (.v 4), (.v 5), (.v 6), (.v 7), (.v 8)] 109 1 252 1), (.ob [((.v 251), true)] (.v 252)), (.call 65 [(.v 0), (.v 1), (.v 2), (.v 3), (.v 4), (.v 5), (.v 6), (.v 7), (.v 8), (.v 9), (.v 10)] [(.v 0), (.v 1), (.v 2), (.v 3), (.v 4), (.v 5), (.v 6), (.v 7), (.v 8)] 110 1 253 1), (.ob [((.v 251), true)] (.v 253)), (.db 254 (.cm .eql (.v 109) (.v 110))), (.db 255 (.and (.v 251) (.v 254))), (.call 31 [] [] 111 0 256 2), (.ob [((.v 255), true)] (.v 256)), (.db 258 (.and (.v 255) (.v 257)))] [] [(.v 258)])
theorem k13 : fnX Tryd.prog (tabS T49) gl (ctlOf Tryd.f13 gl s13) Tryd.f13 s13 = some S13 := by kernel_rfl
noncomputable def F13 : Fun := S13.run (tabF T49) true
theorem x13 : AllOk Tryd.prog (tabF T49) gl (tabS T49) := A49
theorem y13 : LoopsOk (tabF T49) (ctlOf Tryd.f13 gl s13) := (LoopsOk.nil rfl)
theorem z13 : (wsEm S13.em (argI s13.args) (argB s13.args) && shOk s13 && s13.pre) = true := by kernel_rfl
theorem d13 : Contract Tryd.prog gl 13 s13 (S13.run (tabF T49) s13.pre) := contract_pre x13 Tryd.func13 y13 k13 z13
theorem c13 : Contract Tryd.prog gl 13 s13 F13 := d13
theorem call13 : ∀ args w, (callFunc 13 args).run Tryd.prog w = .ok (.enter 13 args) w := callable_of Tryd.func13 (by kernel_rfl) (by kernel_rfl)
noncomputable def e13 : Nat × Sum × Fun := (13, s13, F13)
noncomputable def T50 : List (Nat × Sum × Fun) := e13 :: T49
theorem A50 : AllOk Tryd.prog (tabF T50) gl (tabS T50) := AllOk.cons (s := e13.2.1) c13 call13 (fun S h => by cases h) A49
/-! seepage/seepagelaw18.ToneLasts -/
def s8 : Sum := { args := [(.val false [(.int .u8)]), (.val true [.bool, .bool, .bool, .bool, (.int .u8), (.int .u8), (.int .u8), .bool, .bool, (.int .u8), (.int .u8), (.int .u8), (.int .u16), (.int .u16), .bool, .bool, .bool, (.int .u8), (.int .u8), (.int .u8), .bool, .bool, (.int .u8), (.int .u8), (.int .u8), .bool, (.int .u8), (.int .u16), (.int .u16), .bool, .bool, .bool, (.int .u8), (.int .u8), (.int .u8), .bool, .bool, (.int .u8), .bool, (.int .u8), (.int .u16), (.int .u16), (.int .i64), (.int .u8)])], tup := false, res := [(false, [.bool])], pre := true }
def S8 : Smry := (.mk [(.call 30 [(.v 1), (.v 2), (.v 3), (.c 0), (.v 5), (.v 6), (.v 7), (.v 8), (.v 9), (.v 10), (.v 11), (.v 12), (.v 13), (.v 14), (.v 15), (.v 16), (.v 17), (.v 18), (.v 19), (.v 20), (.v 21), (.v 22), (.v 23), (.v 24)] [(.v 0), (.v 1), (.v 2), (.v 3), (.c false), (.c true), (.v 6), (.v 7), (.v 8), (.v 9), (.v 10), (.v 11), (.v 12), (.v 13), (.v 14), (.v 15), (.v 16), (.v 17)] 27 1 18 0), (.db 18 (.cm .neq (.v 27) (.c 0))), (.call 31 [] [] 28 0 19 2), (.ob [((.v 18), true)] (.v 19)), (.call 32 [(.v 1), (.v 2), (.v 3), (.c 0), (.v 5), (.v 6), (.v 7), (.v 8), (.v 9), (.v 10), (.v 11), (.c 3), (.v 0)] [(.v 0), (.v 1), (.v 2), (.v 3), (.c false), (.c true), (.v 6), (.v 7), (.v 8)] 28 11 21 10), (.ob [((.v 18), false)] (.v 21)), (.di 39 (.cv .i64 (.v 31))), (.call 33 [(.v 31)] [(.v 26), (.v 27), (.c false)] 40 1 31 2), (.di 41 (.ar .shr .u8 (.v 0) (.c 3))), (.db 33 (.cm .geq (.v 41) (.c 0))), (.ob [((.v 18), false)] (.v 33)), (.db 34 (.cm .lss (.v 41) (.c 32))), (.ob [((.v 18), false)] (.v 34)), (.di 42 (.tab [10, 254, 20, 2, 40, 4, 80, 6, 160, 8, 60, 10, 14, 12, 26, 14, 12, 16, 24, 18, 48, 20, 96, 22, 192, 24, 72, 26, 16, 28, 32, 30] (.v 41))), (.db 35 (.cm .neq (.v 39) (.v 42))), (.call 32 [(.v 1), (.v 2), (.v 3), (.v 40), (.v 5), (.v 6), (.v 7), (.v 8), (.v 9), (.v 10), (.v 11), (.c 3), (.v 0)] [(.v 0), (.v 1), (.v 2), (.v 3), (.v 31), (.v 32), (.v 6), (.v 7), (.v 8)] 43 11 36 10), (.ob [((.v 18), false), ((.v 35), false)] (.v 36)), (.db 46 (.cm .neq (.v 46) (.c 0))), (.db 47 (.or (.v 35) (.v 46))), (.call 100800 [(.v 39), (.c 0), (.v 28), (.v 29), (.v 30), (.v 31), (.v 32), (.v 33), (.v 34), (.v 35), (.v 36), (.v 37), (.v 38), (.v 28), (.v 29), (.v 30), (.v 31), (.v 32), (.v 33), (.v 34), (.v 35), (.v 36), (.v 37), (.v 38)] [(.v 22), (.v 23), (.v 24), (.v 25), (.v 26), (.v 27), (.v 28), (.v 29), (.v 30), (.v 22), (.v 23), (.v 24), (.v 25), (.c true), (.v 27), (.v 28), (.v 29), (.v 30)] 54 22 48 21), (.ob [((.v 18), false), ((.v 47), false)] (.v 48)), (.db 69 (.cm .eql (.v 57) (.c 0))), (.call 36 [(.v 54), (.v 55), (.v 56), (.v 57), (.v 58), (.v 59), (.v 60), (.v 61), (.v 62), (.v 63), (.v 64)] [(.v 51), (.v 52), (.v 53), (.v 54), (.v 55), (.v 56), (.v 57), (.v 58), (.v 59)] 76 1 70 1), (.ob [((.v 18), false), ((.v 47), false), ((.v 50), true), ((.v 69), true)] (.v 70)), (.db 71 (.cm .eql (.v 76) (.c 0))), (.db 72 (.and (.v 69) (.v 71))), (.call 35 [(.v 54), (.v 55), (.v 56), (.v 57), (.v 58), (.v 59), (.v 60), (.v 61), (.v 62), (.v 63), (.v 64)] [(.v 51), (.v 52), (.v 53), (.v 54), (.v 55), (.v 56), (.v 57), (.v 58), (.v 59)] 77 11 73 10), (.ob [((.v 18), false), ((.v 47), false), ((.v 50), true), ((.v 72), true)] (.v 73)), (.db 83 (.cm .eql (.v 80) (.c 0))), (.db 84 (.and (.v 72) (.v 83))), (.call 31 [] [] 88 0 85 2), (.ob [((.v 18), false), ((.v 47), false), ((.v 50), true), ((.v 84), true)] (.v 85)), (.db 87 (.and (.v 84) (.v 86))), (.db 88 (.and (.v 50) (.v 87))), (.db 89 (.not (.v 47))), (.db 90 (.and (.v 89) (.v 88))), (.db 91 (.not (.v 18))), (.db 92 (.ite (.v 91) (.v 90) (.v 20)))] [] [(.v 92)])
def L100800 : LAnn := { id := 100800, ga := [39], gb := [], hv := [10], dr := [2, 11, 12, 13, 14, 15, 16, 17, 18, 19, 20, 22, 23, 24, 25, 26, 27, 28, 29, 30, 31, 32, 33, 34, 35, 36, 37, 38, 39, 40, 41, 42, 43, 44, 45, 46, 47, 48, 49, 50, 51, 53, 54, 56, 57, 58, 59, 60, 61, 62, 63, 64, 65, 66, 67, 68, 69, 70, 71, 72, 74, 75, 76, 77, 78, 79, 80, 81, 82, 83, 84, 85, 86, 87, 88, 89, 90, 91, 92, 93, 94, 95, 96], hb := [5, 6], db := [], xs := [4], xb := [5, 6], nI := 24, nB := 18, S := (.mk [(.db 18 (.cm .lss (.v 1) (.v 0))), (.di 24 (.cv .i64 (.v 5))), (.di 25 (.ar .sub .i64 (.v 0) (.v 1))), (.db 19 (.cm .neq (.v 24) (.v 25))), (.di 26 (.cv .i64 (.v 16))), (.db 20 (.cm .neq (.v 26) (.v 0))), (.db 21 (.or (.v 19) (.v 20))), (.call 35 [(.v 2), (.v 3), (.v 4), (.v 5), (.v 6), (.v 7), (.v 8), (.v 9), (.v 10), (.v 11), (.v 12)] [(.v 0), (.v 1), (.v 2), (.v 3), (.v 4), (.v 5), (.v 6), (.v 7), (.v 8)] 27 11 22 10), (.ob [((.v 18), true), ((.v 21), false)] (.v 22)), (.call 35 [(.v 13), (.v 14), (.v 15), (.v 16), (.v 17), (.v 18), (.v 19), (.v 20), (.v 21), (.v 22), (.v 23)] [(.v 9), (.v 10), (.v 11), (.v 12), (.v 13), (.v 14), (.v 15), (.v 16), (.v 17)] 38 11 32 10), (.ob [((.v 18), true), ((.v 21), false)] (.v 32)), (.db 42 (.not (.v 21))), (.di 49 (.ar .add .i64 (.v 1) (.c 1))), (.db 43 (.not (.v 21))), (.db 44 (.not (.v 21))), (.db 45 (.and (.v 18) (.v 44))), (.db 46 (.and (.v 18) (.v 21))), (.db 47 (.not (.v 18)))] [(.v 0), (.v 49), (.v 27), (.v 28), (.v 29), (.v 30), (.v 31), (.v 32), (.v 33), (.v 34), (.v 35), (.v 36), (.v 37), (.v 38), (.v 39), (.v 40), (.v 41), (.v 42), (.v 43), (.v 44), (.v 45), (.v 46), (.v 47), (.v 48), (.v 2), (.v 3), (.v 4), (.v 5), (.v 6), (.v 7), (.v 8), (.v 9), (.v 10), (.v 11), (.v 12), (.v 13), (.v 14), (.v 15), (.v 16), (.v 17), (.v 18), (.v 19), (.v 20), (.v 21), (.v 22), (.v 23)] [(.v 45), (.v 23), (.v 24), (.v 25), (.v 26), (.v 27), (.v 28), (.v 29), (.v 30), (.v 31), (.v 33), (.v 34), (.v 35), (.v 36), (.v 37), (.v 38), (.v 39), (.v 40), (.v 41), (.v 46), (.v 47), (.v 0), (.v 1), (.v 2), (.v 3), (.v 4), (.v 5), (.v 6), (.v 7), (.v 8), (.v 9), (.v 10), (.v 11), (.v 12), (.v 13), (.v 14), (.v 15), (.v 16), (.v 17)]) }
def l8 : List (Nat × LAnn) := [(14, L100800)]
theorem k8 : fnX Tryd.prog (tabS T50) gl (ctlL Tryd.f8 gl s8 l8) Tryd.f8 s8 = some S8 := by kernel_rfl
noncomputable def F8 : Fun := S8.run (lpF (l8.map (·.2)) (tabF T50)) true
theorem x8 : AllOk Tryd.prog (lpF (l8.map (·.2)) (tabF T50)) gl (tabS T50) := (AllOk.loops (l := l8.map (·.2)) A50 (by kernel_rfl))
theorem y8 : LoopsOk (lpF (l8.map (·.2)) (tabF T50)) (ctlL Tryd.f8 gl s8 l8) := (LoopsOk.of (fn := Tryd.f8) (gl := gl) (s := s8) (l := l8) (by kernel_rfl))
theorem z8 : (wsEm S8.em (argI s8.args) (argB s8.args) && shOk s8 && s8.pre) = true := by kernel_rfl
theorem d8 : Contract Tryd.prog gl 8 s8 (S8.run (lpF (l8.map (·.2)) (tabF T50)) s8.pre) := contract_pre x8 Tryd.func8 y8 k8 z8
theorem c8 : Contract Tryd.prog gl 8 s8 F8 := d8
theorem call8 : ∀ args w, (callFunc 8 args).run Tryd.prog w = .ok (.enter 8 args) w := callable_of Tryd.func8 (by kernel_rfl) (by kernel_rfl)
noncomputable def e8 : Nat × Sum × Fun := (8, s8, F8)
noncomputable def T51 : List (Nat × Sum × Fun) := e8 :: T50
theorem A51 : AllOk Tryd.prog (tabF T51) gl (tabS T51) := AllOk.cons (s := e8.2.1) c8 call8 (fun S h => by cases h) A50
end Go.Proofs.YtoempcgniokpiaaDoor.Ta
