/-
  The walks of tone's laws (noise): what each function answers, by the executor. WRITTEN BY PROGRAM (wip/dev/Drv.lean). No condition.
-/
import Derived.Test.YtoempcgniokpiaaDoorSxU
import Derived.Test.YtoempcgniokpiaaDoorProg
set_option linter.unusedVariables false
namespace Go.Proofs.YtoempcgniokpiaaDoor.Tc
open Go Go.Proofs.YtoempcgniokpiaaDoor.Sx

def longs : List Int := [10, 254, 20, 2, 40, 4, 80, 6, 160, 8, 60, 10, 14, 12, 26, 14, 12, 16, 24, 18, 48, 20, 96, 22, 192, 24, 72, 26, 16, 28, 32, 30]
def rates : List Int := [4, 8, 16, 32, 64, 96, 128, 160, 202, 254, 380, 508, 762, 1016, 2034, 4068]
def gl : Gl := [[], rates.map (Value.int .u16), longs.map (Value.int .u8)]
noncomputable def T0 : List (Nat × Sum × Fun) := []
theorem A0 : AllOk Tryd.prog (tabF T0) gl (tabS T0) := AllOk.nil
/-! seepage/tone.env -/
def s78 : Sum := { args := [(.val true [.bool, .bool, .bool, (.int .u8), (.int .u8), (.int .u8)])], tup := false, res := [(false, [.bool])], pre := false }
def S78 : Smry := (.mk [(.di 3 (.mx (.v 0) (.v 1))), (.di 4 (.mx (.v 3) (.v 2))), (.db 3 (.cm .lss (.v 4) (.c 16)))] [] [(.v 3)])
theorem k78 : fnX Tryd.prog (tabS T0) gl (ctlOf Tryd.f78 gl s78) Tryd.f78 s78 = some S78 := by kernel_rfl
noncomputable def F78 : Fun := S78.run (tabF T0) false
theorem x78 : AllOk Tryd.prog (tabF T0) gl (tabS T0) := A0
theorem y78 : LoopsOk (tabF T0) (ctlOf Tryd.f78 gl s78) := (LoopsOk.nil rfl)
theorem z78 : (wsEm S78.em (argI s78.args) (argB s78.args) && shOk s78 && noOb S78.em) = true := by kernel_rfl
theorem d78 : Contract Tryd.prog gl 78 s78 (S78.run (tabF T0) s78.pre) := contract_of x78 Tryd.func78 y78 k78 z78
theorem c78 : Contract Tryd.prog gl 78 s78 F78 := d78
theorem call78 : ∀ args w, (callFunc 78 args).run Tryd.prog w = .ok (.enter 78 args) w := callable_of Tryd.func78 (by kernel_rfl) (by kernel_rfl)
noncomputable def e78 : Nat × Sum × Fun := (78, withInl s78 S78, F78)
noncomputable def T1 : List (Nat × Sum × Fun) := e78 :: T0
theorem A1 : AllOk Tryd.prog (tabF T1) gl (tabS T1) := AllOk.cons (s := e78.2.1) c78 call78 (fun S h => by cases h; exact ⟨rfl, fun _ _ => rfl⟩) A0
/-! seepage/tone.pulse -/
def s68 : Sum := { args := [(.val true [.bool, .bool, .bool, .bool, (.int .u8), (.int .u8), (.int .u8), .bool, .bool, (.int .u8), (.int .u8), (.int .u8), (.int .u16), (.int .u16), .bool, .bool, .bool, (.int .u8), (.int .u8), (.int .u8)])], tup := false, res := [(false, [.bool])], pre := false }
def S68 : Smry := (.mk [(.di 11 (.mx (.v 0) (.v 1))), (.di 12 (.mx (.v 11) (.v 2))), (.db 9 (.cm .lss (.v 12) (.c 16))), (.db 10 (.cm .lss (.v 4) (.c 4))), (.db 11 (.and (.v 9) (.v 10))), (.di 13 (.mx (.v 5) (.v 8))), (.di 14 (.mx (.v 13) (.v 9))), (.di 15 (.mx (.v 14) (.v 10))), (.db 12 (.cm .lss (.v 15) (.c 8))), (.db 13 (.and (.v 11) (.v 12))), (.di 16 (.mx (.v 6) (.v 7))), (.db 14 (.cm .lss (.v 16) (.c 2048))), (.db 15 (.and (.v 13) (.v 14)))] [] [(.v 15)])
theorem k68 : fnX Tryd.prog (tabS T1) gl (ctlOf Tryd.f68 gl s68) Tryd.f68 s68 = some S68 := by kernel_rfl
noncomputable def F68 : Fun := S68.run (tabF T1) false
theorem x68 : AllOk Tryd.prog (tabF T1) gl (tabS T1) := A1
theorem y68 : LoopsOk (tabF T1) (ctlOf Tryd.f68 gl s68) := (LoopsOk.nil rfl)
theorem z68 : (wsEm S68.em (argI s68.args) (argB s68.args) && shOk s68 && noOb S68.em) = true := by kernel_rfl
theorem d68 : Contract Tryd.prog gl 68 s68 (S68.run (tabF T1) s68.pre) := contract_of x68 Tryd.func68 y68 k68 z68
theorem c68 : Contract Tryd.prog gl 68 s68 F68 := d68
theorem call68 : ∀ args w, (callFunc 68 args).run Tryd.prog w = .ok (.enter 68 args) w := callable_of Tryd.func68 (by kernel_rfl) (by kernel_rfl)
noncomputable def e68 : Nat × Sum × Fun := (68, s68, F68)
noncomputable def T2 : List (Nat × Sum × Fun) := e68 :: T1
theorem A2 : AllOk Tryd.prog (tabF T2) gl (tabS T2) := AllOk.cons (s := e68.2.1) c68 call68 (fun S h => by cases h) A1
/-! seepage/tone.triangle -/
def s69 : Sum := { args := [(.val true [.bool, .bool, (.int .u8), (.int .u8), (.int .u8), .bool, (.int .u8), (.int .u16), (.int .u16)])], tup := false, res := [(false, [.bool])], pre := false }
def S69 : Smry := (.mk [(.di 6 (.mx (.v 1) (.v 2))), (.db 3 (.cm .lss (.v 6) (.c 128))), (.db 4 (.cm .lss (.v 3) (.c 32))), (.db 5 (.and (.v 3) (.v 4))), (.di 7 (.mx (.v 4) (.v 5))), (.db 6 (.cm .lss (.v 7) (.c 2048))), (.db 7 (.and (.v 5) (.v 6)))] [] [(.v 7)])
theorem k69 : fnX Tryd.prog (tabS T2) gl (ctlOf Tryd.f69 gl s69) Tryd.f69 s69 = some S69 := by kernel_rfl
noncomputable def F69 : Fun := S69.run (tabF T2) false
theorem x69 : AllOk Tryd.prog (tabF T2) gl (tabS T2) := A2
theorem y69 : LoopsOk (tabF T2) (ctlOf Tryd.f69 gl s69) := (LoopsOk.nil rfl)
theorem z69 : (wsEm S69.em (argI s69.args) (argB s69.args) && shOk s69 && noOb S69.em) = true := by kernel_rfl
theorem d69 : Contract Tryd.prog gl 69 s69 (S69.run (tabF T2) s69.pre) := contract_of x69 Tryd.func69 y69 k69 z69
theorem c69 : Contract Tryd.prog gl 69 s69 F69 := d69
theorem call69 : ∀ args w, (callFunc 69 args).run Tryd.prog w = .ok (.enter 69 args) w := callable_of Tryd.func69 (by kernel_rfl) (by kernel_rfl)
noncomputable def e69 : Nat × Sum × Fun := (69, s69, F69)
noncomputable def T3 : List (Nat × Sum × Fun) := e69 :: T2
theorem A3 : AllOk Tryd.prog (tabF T3) gl (tabS T3) := AllOk.cons (s := e69.2.1) c69 call69 (fun S h => by cases h) A2
/-! seepage/tone.noise -/
def s70 : Sum := { args := [(.val true [.bool, .bool, .bool, (.int .u8), (.int .u8), (.int .u8), .bool, .bool, (.int .u8), .bool, (.int .u8), (.int .u16), (.int .u16)])], tup := false, res := [(false, [.bool])], pre := false }
def S70 : Smry := (.mk [(.di 7 (.mx (.v 0) (.v 1))), (.di 8 (.mx (.v 7) (.v 2))), (.db 6 (.cm .lss (.v 8) (.c 16))), (.db 7 (.cm .lss (.v 4) (.c 16))), (.db 8 (.and (.v 6) (.v 7))), (.db 9 (.cm .lss (.v 5) (.c 4096))), (.db 10 (.and (.v 8) (.v 9))), (.db 11 (.cm .gtr (.v 6) (.c 0))), (.db 12 (.and (.v 10) (.v 11))), (.db 13 (.cm .lss (.v 6) (.c 32768))), (.db 14 (.and (.v 12) (.v 13)))] [] [(.v 14)])
theorem k70 : fnX Tryd.prog (tabS T3) gl (ctlOf Tryd.f70 gl s70) Tryd.f70 s70 = some S70 := by kernel_rfl
noncomputable def F70 : Fun := S70.run (tabF T3) false
theorem x70 : AllOk Tryd.prog (tabF T3) gl (tabS T3) := A3
theorem y70 : LoopsOk (tabF T3) (ctlOf Tryd.f70 gl s70) := (LoopsOk.nil rfl)
theorem z70 : (wsEm S70.em (argI s70.args) (argB s70.args) && shOk s70 && noOb S70.em) = true := by kernel_rfl
theorem d70 : Contract Tryd.prog gl 70 s70 (S70.run (tabF T3) s70.pre) := contract_of x70 Tryd.func70 y70 k70 z70
theorem c70 : Contract Tryd.prog gl 70 s70 F70 := d70
theorem call70 : ∀ args w, (callFunc 70 args).run Tryd.prog w = .ok (.enter 70 args) w := callable_of Tryd.func70 (by kernel_rfl) (by kernel_rfl)
noncomputable def e70 : Nat × Sum × Fun := (70, s70, F70)
noncomputable def T4 : List (Nat × Sum × Fun) := e70 :: T3
theorem A4 : AllOk Tryd.prog (tabF T4) gl (tabS T4) := AllOk.cons (s := e70.2.1) c70 call70 (fun S h => by cases h) A3
/-! seepage/tone.Check -/
def s30 : Sum := { args := [(.val true [.bool, .bool, .bool, .bool, (.int .u8), (.int .u8), (.int .u8), .bool, .bool, (.int .u8), (.int .u8), (.int .u8), (.int .u16), (.int .u16), .bool, .bool, .bool, (.int .u8), (.int .u8), (.int .u8)]), (.val true [.bool, .bool, (.int .u8), (.int .u8), (.int .u8), .bool, (.int .u8), (.int .u16), (.int .u16)]), (.val true [.bool, .bool, .bool, (.int .u8), (.int .u8), (.int .u8), .bool, .bool, (.int .u8), .bool, (.int .u8), (.int .u16), (.int .u16)])], tup := false, res := [(false, [(.int .i64)])], pre := false }
def S30 : Smry := (.mk [(.call 68 [(.v 0), (.v 1), (.v 2), (.v 3), (.v 4), (.v 5), (.v 6), (.v 7), (.v 8), (.v 9), (.v 10)] [(.v 0), (.v 1), (.v 2), (.v 3), (.v 4), (.v 5), (.v 6), (.v 7), (.v 8)] 24 0 18 1), (.db 19 (.not (.v 18))), (.call 69 [(.v 11), (.v 12), (.v 13), (.v 14), (.v 15), (.v 16)] [(.v 9), (.v 10), (.v 11)] 24 0 20 1), (.db 21 (.not (.v 20))), (.db 22 (.or (.v 19) (.v 21))), (.call 70 [(.v 17), (.v 18), (.v 19), (.v 20), (.v 21), (.v 22), (.v 23)] [(.v 12), (.v 13), (.v 14), (.v 15), (.v 16), (.v 17)] 24 0 23 1), (.db 24 (.not (.v 23))), (.db 25 (.or (.v 22) (.v 24))), (.db 26 (.not (.v 25))), (.di 24 (.ite (.v 26) (.c 0) (.c 1)))] [(.v 24)] [])
theorem k30 : fnX Tryd.prog (tabS T4) gl (ctlOf Tryd.f30 gl s30) Tryd.f30 s30 = some S30 := by kernel_rfl
noncomputable def F30 : Fun := S30.run (tabF T4) false
theorem x30 : AllOk Tryd.prog (tabF T4) gl (tabS T4) := A4
theorem y30 : LoopsOk (tabF T4) (ctlOf Tryd.f30 gl s30) := (LoopsOk.nil rfl)
theorem z30 : (wsEm S30.em (argI s30.args) (argB s30.args) && shOk s30 && noOb S30.em) = true := by kernel_rfl
theorem d30 : Contract Tryd.prog gl 30 s30 (S30.run (tabF T4) s30.pre) := contract_of x30 Tryd.func30 y30 k30 z30
theorem c30 : Contract Tryd.prog gl 30 s30 F30 := d30
theorem call30 : ∀ args w, (callFunc 30 args).run Tryd.prog w = .ok (.enter 30 args) w := callable_of Tryd.func30 (by kernel_rfl) (by kernel_rfl)
noncomputable def e30 : Nat × Sum × Fun := (30, s30, F30)
noncomputable def T5 : List (Nat × Sum × Fun) := e30 :: T4
theorem A5 : AllOk Tryd.prog (tabF T5) gl (tabS T5) := AllOk.cons (s := e30.2.1) c30 call30 (fun S h => by cases h) A4
/-! seepage/tone.written -/
def s71 : Sum := { args := [(.ptr [.bool, .bool, .bool, (.int .u8), (.int .u8), (.int .u8)]), (.ptr [.bool, .bool, (.int .u8)]), (.val false [(.int .u8)])], tup := true, res := [], pre := false }
def S71 : Smry := (.mk [(.di 5 (.ar .and .u8 (.v 4) (.c 32))), (.db 5 (.cm .gtr (.v 5) (.c 0))), (.di 6 (.ar .and .u8 (.v 4) (.c 16))), (.db 6 (.cm .gtr (.v 6) (.c 0))), (.di 7 (.ar .and .u8 (.v 4) (.c 15)))] [(.v 7), (.v 1), (.v 2), (.v 3)] [(.v 5), (.v 6), (.v 2), (.v 5), (.v 4)])
theorem k71 : fnX Tryd.prog (tabS T5) gl (ctlOf Tryd.f71 gl s71) Tryd.f71 s71 = some S71 := by kernel_rfl
noncomputable def F71 : Fun := S71.run (tabF T5) false
theorem x71 : AllOk Tryd.prog (tabF T5) gl (tabS T5) := A5
theorem y71 : LoopsOk (tabF T5) (ctlOf Tryd.f71 gl s71) := (LoopsOk.nil rfl)
theorem z71 : (wsEm S71.em (argI s71.args) (argB s71.args) && shOk s71 && noOb S71.em) = true := by kernel_rfl
theorem d71 : Contract Tryd.prog gl 71 s71 (S71.run (tabF T5) s71.pre) := contract_of x71 Tryd.func71 y71 k71 z71
theorem c71 : Contract Tryd.prog gl 71 s71 F71 := d71
theorem call71 : ∀ args w, (callFunc 71 args).run Tryd.prog w = .ok (.enter 71 args) w := callable_of Tryd.func71 (by kernel_rfl) (by kernel_rfl)
noncomputable def e71 : Nat × Sum × Fun := (71, withInl s71 S71, F71)
noncomputable def T6 : List (Nat × Sum × Fun) := e71 :: T5
theorem A6 : AllOk Tryd.prog (tabF T6) gl (tabS T6) := AllOk.cons (s := e71.2.1) c71 call71 (fun S h => by cases h; exact ⟨rfl, fun _ _ => rfl⟩) A5
/-! seepage/tone.period -/
def s72 : Sum := { args := [(.ptr [(.int .u16)]), (.val false [(.int .i64)]), (.val false [(.int .u8)])], tup := true, res := [], pre := false }
def S72 : Smry := (.mk [(.db 0 (.cm .eql (.v 1) (.c 2))), (.di 3 (.ar .and .u16 (.v 0) (.c 1792))), (.di 4 (.cv .u16 (.v 2))), (.di 5 (.ar .or .u16 (.v 3) (.v 4))), (.di 6 (.ar .and .u16 (.v 0) (.c 255))), (.di 7 (.ar .and .u8 (.v 2) (.c 7))), (.di 8 (.cv .u16 (.v 7))), (.di 9 (.ar .shl .u16 (.v 8) (.c 8))), (.di 10 (.ar .or .u16 (.v 6) (.v 9))), (.di 11 (.ite (.v 0) (.v 5) (.v 10)))] [(.v 11)] [])
theorem k72 : fnX Tryd.prog (tabS T6) gl (ctlOf Tryd.f72 gl s72) Tryd.f72 s72 = some S72 := by kernel_rfl
noncomputable def F72 : Fun := S72.run (tabF T6) false
theorem x72 : AllOk Tryd.prog (tabF T6) gl (tabS T6) := A6
theorem y72 : LoopsOk (tabF T6) (ctlOf Tryd.f72 gl s72) := (LoopsOk.nil rfl)
theorem z72 : (wsEm S72.em (argI s72.args) (argB s72.args) && shOk s72 && noOb S72.em) = true := by kernel_rfl
theorem d72 : Contract Tryd.prog gl 72 s72 (S72.run (tabF T6) s72.pre) := contract_of x72 Tryd.func72 y72 k72 z72
theorem c72 : Contract Tryd.prog gl 72 s72 F72 := d72
theorem call72 : ∀ args w, (callFunc 72 args).run Tryd.prog w = .ok (.enter 72 args) w := callable_of Tryd.func72 (by kernel_rfl) (by kernel_rfl)
noncomputable def e72 : Nat × Sum × Fun := (72, withInl s72 S72, F72)
noncomputable def T7 : List (Nat × Sum × Fun) := e72 :: T6
theorem A7 : AllOk Tryd.prog (tabF T7) gl (tabS T7) := AllOk.cons (s := e72.2.1) c72 call72 (fun S h => by cases h; exact ⟨rfl, fun _ _ => rfl⟩) A6
/-! seepage/tone.load -/
def s73 : Sum := { args := [(.ptr [.bool, .bool, (.int .u8)]), (.val false [(.int .u8)])], tup := true, res := [], pre := true }
def S73 : Smry := (.mk [(.di 2 (.ar .shr .u8 (.v 1) (.c 3))), (.db 2 (.cm .geq (.v 2) (.c 0))), (.ob [((.v 1), true)] (.v 2)), (.db 3 (.cm .lss (.v 2) (.c 32))), (.ob [((.v 1), true)] (.v 3)), (.di 3 (.tab [10, 254, 20, 2, 40, 4, 80, 6, 160, 8, 60, 10, 14, 12, 26, 14, 12, 16, 24, 18, 48, 20, 96, 22, 192, 24, 72, 26, 16, 28, 32, 30] (.v 2))), (.di 4 (.ite (.v 1) (.v 3) (.v 0)))] [(.v 4)] [(.v 0), (.v 1)])
theorem k73 : fnX Tryd.prog (tabS T7) gl (ctlOf Tryd.f73 gl s73) Tryd.f73 s73 = some S73 := by kernel_rfl
noncomputable def F73 : Fun := S73.run (tabF T7) true
theorem x73 : AllOk Tryd.prog (tabF T7) gl (tabS T7) := A7
theorem y73 : LoopsOk (tabF T7) (ctlOf Tryd.f73 gl s73) := (LoopsOk.nil rfl)
theorem z73 : (wsEm S73.em (argI s73.args) (argB s73.args) && shOk s73 && s73.pre) = true := by kernel_rfl
theorem d73 : Contract Tryd.prog gl 73 s73 (S73.run (tabF T7) s73.pre) := contract_pre x73 Tryd.func73 y73 k73 z73
theorem c73 : Contract Tryd.prog gl 73 s73 F73 := d73
theorem call73 : ∀ args w, (callFunc 73 args).run Tryd.prog w = .ok (.enter 73 args) w := callable_of Tryd.func73 (by kernel_rfl) (by kernel_rfl)
noncomputable def e73 : Nat × Sum × Fun := (73, s73, F73)
noncomputable def T8 : List (Nat × Sum × Fun) := e73 :: T7
theorem A8 : AllOk Tryd.prog (tabF T8) gl (tabS T8) := AllOk.cons (s := e73.2.1) c73 call73 (fun S h => by cases h) A7
/-! seepage/tone.PulseWrite -/
def s32 : Sum := { args := [(.val true [.bool, .bool, .bool, .bool, (.int .u8), (.int .u8), (.int .u8), .bool, .bool, (.int .u8), (.int .u8), (.int .u8), (.int .u16), (.int .u16), .bool, .bool, .bool, (.int .u8), (.int .u8), (.int .u8)]), (.val false [(.int .i64)]), (.val false [(.int .u8)])], tup := false, res := [(true, [.bool, .bool, .bool, .bool, (.int .u8), (.int .u8), (.int .u8), .bool, .bool, (.int .u8), (.int .u8), (.int .u8), (.int .u16), (.int .u16), .bool, .bool, .bool, (.int .u8), (.int .u8), (.int .u8)])], pre := true }
def S32 : Smry := (.mk [(.call 68 [(.v 0), (.v 1), (.v 2), (.v 3), (.v 4), (.v 5), (.v 6), (.v 7), (.v 8), (.v 9), (.v 10)] [(.v 0), (.v 1), (.v 2), (.v 3), (.v 4), (.v 5), (.v 6), (.v 7), (.v 8)] 13 0 9 1), (.db 10 (.not (.v 9))), (.db 11 (.cm .eql (.v 11) (.c 0))), (.di 13 (.ar .shr .u8 (.v 12) (.c 6))), (.di 14 (.ar .and .u8 (.v 12) (.c 32))), (.db 12 (.cm .gtr (.v 14) (.c 0))), (.di 15 (.ar .and .u8 (.v 12) (.c 16))), (.db 13 (.cm .gtr (.v 15) (.c 0))), (.di 16 (.ar .and .u8 (.v 12) (.c 15))), (.db 14 (.cm .eql (.v 11) (.c 1))), (.di 17 (.ar .and .u8 (.v 12) (.c 128))), (.db 15 (.cm .gtr (.v 17) (.c 0))), (.di 18 (.ar .shr .u8 (.v 12) (.c 4))), (.di 19 (.ar .and .u8 (.v 18) (.c 7))), (.di 20 (.ar .and .u8 (.v 12) (.c 8))), (.db 16 (.cm .gtr (.v 20) (.c 0))), (.di 21 (.ar .and .u8 (.v 12) (.c 7))), (.db 17 (.cm .eql (.v 11) (.c 2))), (.db 18 (.cm .eql (.v 11) (.c 3))), (.db 19 (.ite (.v 17) (.v 17) (.v 18))), (.db 20 (.cm .eql (.v 11) (.c 2))), (.di 22 (.ar .and .u16 (.v 6) (.c 1792))), (.di 23 (.cv .u16 (.v 12))), (.di 24 (.ar .or .u16 (.v 22) (.v 23))), (.di 25 (.ar .and .u16 (.v 6) (.c 255))), (.di 26 (.ar .and .u8 (.v 12) (.c 7))), (.di 27 (.cv .u16 (.v 26))), (.di 28 (.ar .shl .u16 (.v 27) (.c 8))), (.di 29 (.ar .or .u16 (.v 25) (.v 28))), (.di 30 (.ite (.v 20) (.v 24) (.v 29))), (.db 21 (.cm .eql (.v 11) (.c 3))), (.call 73 [(.v 3), (.v 12)] [(.v 4), (.v 5)] 31 1 22 3), (.ob [((.v 10), false), ((.v 11), false), ((.v 14), false), ((.v 19), true), ((.v 21), true)] (.v 22)), (.db 25 (.or (.v 21) (.v 3))), (.db 26 (.ite (.v 21) (.v 23) (.v 4))), (.db 27 (.ite (.v 21) (.v 24) (.v 5))), (.di 32 (.ite (.v 21) (.v 31) (.v 3))), (.di 33 (.ite (.v 21) (.c 0) (.v 5))), (.db 28 (.ite (.v 19) (.v 25) (.v 3))), (.db 29 (.ite (.v 19) (.v 26) (.v 4))), (.db 30 (.ite (.v 19) (.v 27) (.v 5))), (.di 34 (.ite (.v 19) (.v 32) (.v 3))), (.di 35 (.ite (.v 19) (.v 33) (.v 5))), (.di 36 (.ite (.v 19) (.v 30) (.v 6))), (.db 31 (.ite (.v 14) (.v 3) (.v 28))), (.db 32 (.ite (.v 14) (.v 4) (.v 29))), (.db 33 (.ite (.v 14) (.v 5) (.v 30))), (.di 37 (.ite (.v 14) (.v 3) (.v 34))), (.di 38 (.ite (.v 14) (.v 5) (.v 35))), (.di 39 (.ite (.v 14) (.v 6) (.v 36))), (.db 34 (.ite (.v 14) (.v 15) (.v 6))), (.db 35 (.ite (.v 14) (.v 16) (.v 7))), (.db 36 (.or (.v 14) (.v 8))), (.di 40 (.ite (.v 14) (.v 19) (.v 8))), (.di 41 (.ite (.v 14) (.v 21) (.v 9))), (.db 37 (.ite (.v 11) (.v 12) (.v 1))), (.db 38 (.ite (.v 11) (.v 13) (.v 2))), (.db 39 (.ite (.v 11) (.v 3) (.v 31))), (.di 42 (.ite (.v 11) (.v 16) (.v 0))), (.db 40 (.ite (.v 11) (.v 12) (.v 32))), (.db 41 (.ite (.v 11) (.v 5) (.v 33))), (.di 43 (.ite (.v 11) (.v 3) (.v 37))), (.di 44 (.ite (.v 11) (.v 13) (.v 4))), (.di 45 (.ite (.v 11) (.v 5) (.v 38))), (.di 46 (.ite (.v 11) (.v 6) (.v 39))), (.db 42 (.ite (.v 11) (.v 6) (.v 34))), (.db 43 (.ite (.v 11) (.v 7) (.v 35))), (.db 44 (.ite (.v 11) (.v 8) (.v 36))), (.di 47 (.ite (.v 11) (.v 8) (.v 40))), (.di 48 (.ite (.v 11) (.v 9) (.v 41))), (.db 45 (.not (.v 10))), (.db 46 (.ite (.v 45) (.v 37) (.v 1))), (.db 47 (.ite (.v 45) (.v 38) (.v 2))), (.db 48 (.ite (.v 45) (.v 39) (.v 3))), (.di 49 (.ite (.v 45) (.v 42) (.v 0))), (.db 49 (.ite (.v 45) (.v 40) (.v 4))), (.db 50 (.ite (.v 45) (.v 41) (.v 5))), (.di 50 (.ite (.v 45) (.v 43) (.v 3))), (.di 51 (.ite (.v 45) (.v 44) (.v 4))), (.di 52 (.ite (.v 45) (.v 45) (.v 5))), (.di 53 (.ite (.v 45) (.v 46) (.v 6))), (.db 51 (.ite (.v 45) (.v 42) (.v 6))), (.db 52 (.ite (.v 45) (.v 43) (.v 7))), (.db 53 (.ite (.v 45) (.v 44) (.v 8))), (.di 54 (.ite (.v 45) (.v 47) (.v 8))), (.di 55 (.ite (.v 45) (.v 48) (.v 9)))] [(.v 49), (.v 1), (.v 2), (.v 50), (.v 51), (.v 52), (.v 53), (.v 7), (.v 54), (.v 55), (.v 10)] [(.v 0), (.v 46), (.v 47), (.v 48), (.v 49), (.v 50), (.v 51), (.v 52), (.v 53)])
theorem k32 : fnX Tryd.prog (tabS T8) gl (ctlOf Tryd.f32 gl s32) Tryd.f32 s32 = some S32 := by kernel_rfl
noncomputable def F32 : Fun := S32.run (tabF T8) true
theorem x32 : AllOk Tryd.prog (tabF T8) gl (tabS T8) := A8
theorem y32 : LoopsOk (tabF T8) (ctlOf Tryd.f32 gl s32) := (LoopsOk.nil rfl)
theorem z32 : (wsEm S32.em (argI s32.args) (argB s32.args) && shOk s32 && s32.pre) = true := by kernel_rfl
theorem d32 : Contract Tryd.prog gl 32 s32 (S32.run (tabF T8) s32.pre) := contract_pre x32 Tryd.func32 y32 k32 z32
theorem c32 : Contract Tryd.prog gl 32 s32 F32 := d32
theorem call32 : ∀ args w, (callFunc 32 args).run Tryd.prog w = .ok (.enter 32 args) w := callable_of Tryd.func32 (by kernel_rfl) (by kernel_rfl)
noncomputable def e32 : Nat × Sum × Fun := (32, s32, F32)
noncomputable def T9 : List (Nat × Sum × Fun) := e32 :: T8
theorem A9 : AllOk Tryd.prog (tabF T9) gl (tabS T9) := AllOk.cons (s := e32.2.1) c32 call32 (fun S h => by cases h) A8
/-! seepage/tone.TriangleOut -/
def s58 : Sum := { args := [(.val true [.bool, .bool, (.int .u8), (.int .u8), (.int .u8), .bool, (.int .u8), (.int .u16), (.int .u16)])], tup := false, res := [(false, [(.int .u8)])], pre := false }
def S58 : Smry := (.mk [(.call 69 [(.v 0), (.v 1), (.v 2), (.v 3), (.v 4), (.v 5)] [(.v 0), (.v 1), (.v 2)] 6 0 3 1), (.db 4 (.not (.v 3))), (.db 5 (.cm .lss (.v 3) (.c 16))), (.di 6 (.ar .sub .u8 (.c 15) (.v 3))), (.db 6 (.or (.v 4) (.v 5))), (.di 7 (.ite (.v 4) (.c 0) (.v 6))), (.di 8 (.ar .sub .u8 (.v 3) (.c 16))), (.db 7 (.not (.v 4))), (.db 8 (.not (.v 5))), (.db 9 (.and (.v 7) (.v 8))), (.di 9 (.ite (.v 9) (.v 8) (.v 7)))] [(.v 9)] [])
theorem k58 : fnX Tryd.prog (tabS T9) gl (ctlOf Tryd.f58 gl s58) Tryd.f58 s58 = some S58 := by kernel_rfl
noncomputable def F58 : Fun := S58.run (tabF T9) false
theorem x58 : AllOk Tryd.prog (tabF T9) gl (tabS T9) := A9
theorem y58 : LoopsOk (tabF T9) (ctlOf Tryd.f58 gl s58) := (LoopsOk.nil rfl)
theorem z58 : (wsEm S58.em (argI s58.args) (argB s58.args) && shOk s58 && noOb S58.em) = true := by kernel_rfl
theorem d58 : Contract Tryd.prog gl 58 s58 (S58.run (tabF T9) s58.pre) := contract_of x58 Tryd.func58 y58 k58 z58
theorem c58 : Contract Tryd.prog gl 58 s58 F58 := d58
theorem call58 : ∀ args w, (callFunc 58 args).run Tryd.prog w = .ok (.enter 58 args) w := callable_of Tryd.func58 (by kernel_rfl) (by kernel_rfl)
noncomputable def e58 : Nat × Sum × Fun := (58, s58, F58)
noncomputable def T10 : List (Nat × Sum × Fun) := e58 :: T9
theorem A10 : AllOk Tryd.prog (tabF T10) gl (tabS T10) := AllOk.cons (s := e58.2.1) c58 call58 (fun S h => by cases h) A9
/-! seepage/tone.target -/
def s75 : Sum := { args := [(.val true [.bool, .bool, .bool, .bool, (.int .u8), (.int .u8), (.int .u8), .bool, .bool, (.int .u8), (.int .u8), (.int .u8), (.int .u16), (.int .u16), .bool, .bool, .bool, (.int .u8), (.int .u8), (.int .u8)])], tup := false, res := [(false, [(.int .u16)])], pre := true }
def S75 : Smry := (.mk [(.db 9 (.cm .geq (.v 9) (.c 0))), (.ob [] (.v 9)), (.di 11 (.ar .shr .u16 (.v 6) (.v 9))), (.db 10 (.not (.v 7))), (.di 12 (.ar .add .u16 (.v 6) (.v 11))), (.db 11 (.not (.v 0))), (.di 13 (.ar .add .u16 (.v 11) (.c 1))), (.di 14 (.ite (.v 11) (.v 13) (.v 11))), (.di 15 (.mn (.v 14) (.v 6))), (.di 16 (.ar .sub .u16 (.v 6) (.v 15))), (.db 12 (.not (.v 10))), (.di 17 (.ite (.v 12) (.v 16) (.v 12)))] [(.v 17)] [])
theorem k75 : fnX Tryd.prog (tabS T10) gl (ctlOf Tryd.f75 gl s75) Tryd.f75 s75 = some S75 := by kernel_rfl
noncomputable def F75 : Fun := S75.run (tabF T10) true
theorem x75 : AllOk Tryd.prog (tabF T10) gl (tabS T10) := A10
theorem y75 : LoopsOk (tabF T10) (ctlOf Tryd.f75 gl s75) := (LoopsOk.nil rfl)
theorem z75 : (wsEm S75.em (argI s75.args) (argB s75.args) && shOk s75 && s75.pre) = true := by kernel_rfl
theorem d75 : Contract Tryd.prog gl 75 s75 (S75.run (tabF T10) s75.pre) := contract_pre x75 Tryd.func75 y75 k75 z75
theorem c75 : Contract Tryd.prog gl 75 s75 F75 := d75
theorem call75 : ∀ args w, (callFunc 75 args).run Tryd.prog w = .ok (.enter 75 args) w := callable_of Tryd.func75 (by kernel_rfl) (by kernel_rfl)
noncomputable def e75 : Nat × Sum × Fun := (75, s75, F75)
noncomputable def T11 : List (Nat × Sum × Fun) := e75 :: T10
theorem A11 : AllOk Tryd.prog (tabF T11) gl (tabS T11) := AllOk.cons (s := e75.2.1) c75 call75 (fun S h => by cases h) A10
/-! seepage/tone.mute -/
def s74 : Sum := { args := [(.val true [.bool, .bool, .bool, .bool, (.int .u8), (.int .u8), (.int .u8), .bool, .bool, (.int .u8), (.int .u8), (.int .u8), (.int .u16), (.int .u16), .bool, .bool, .bool, (.int .u8), (.int .u8), (.int .u8)])], tup := false, res := [(false, [.bool])], pre := true }
def S74 : Smry := (.mk [(.db 9 (.cm .lss (.v 6) (.c 8))), (.call 75 [(.v 0), (.v 1), (.v 2), (.v 3), (.v 4), (.v 5), (.v 6), (.v 7), (.v 8), (.v 9), (.v 10)] [(.v 0), (.v 1), (.v 2), (.v 3), (.v 4), (.v 5), (.v 6), (.v 7), (.v 8)] 11 1 10 1), (.ob [((.v 9), false)] (.v 10)), (.db 11 (.cm .gtr (.v 11) (.c 2047))), (.db 12 (.or (.v 9) (.v 11)))] [] [(.v 12)])
theorem k74 : fnX Tryd.prog (tabS T11) gl (ctlOf Tryd.f74 gl s74) Tryd.f74 s74 = some S74 := by kernel_rfl
noncomputable def F74 : Fun := S74.run (tabF T11) true
theorem x74 : AllOk Tryd.prog (tabF T11) gl (tabS T11) := A11
theorem y74 : LoopsOk (tabF T11) (ctlOf Tryd.f74 gl s74) := (LoopsOk.nil rfl)
theorem z74 : (wsEm S74.em (argI s74.args) (argB s74.args) && shOk s74 && s74.pre) = true := by kernel_rfl
theorem d74 : Contract Tryd.prog gl 74 s74 (S74.run (tabF T11) s74.pre) := contract_pre x74 Tryd.func74 y74 k74 z74
theorem c74 : Contract Tryd.prog gl 74 s74 F74 := d74
theorem call74 : ∀ args w, (callFunc 74 args).run Tryd.prog w = .ok (.enter 74 args) w := callable_of Tryd.func74 (by kernel_rfl) (by kernel_rfl)
noncomputable def e74 : Nat × Sum × Fun := (74, s74, F74)
noncomputable def T12 : List (Nat × Sum × Fun) := e74 :: T11
theorem A12 : AllOk Tryd.prog (tabF T12) gl (tabS T12) := AllOk.cons (s := e74.2.1) c74 call74 (fun S h => by cases h) A11
/-! seepage/tone.level -/
def s76 : Sum := { args := [(.val true [.bool, .bool, .bool, (.int .u8), (.int .u8), (.int .u8)])], tup := false, res := [(false, [(.int .u8)])], pre := false }
def S76 : Smry := (.mk [(.db 3 (.not (.v 1))), (.di 3 (.ite (.v 3) (.v 2) (.v 0)))] [(.v 3)] [])
theorem k76 : fnX Tryd.prog (tabS T12) gl (ctlOf Tryd.f76 gl s76) Tryd.f76 s76 = some S76 := by kernel_rfl
noncomputable def F76 : Fun := S76.run (tabF T12) false
theorem x76 : AllOk Tryd.prog (tabF T12) gl (tabS T12) := A12
theorem y76 : LoopsOk (tabF T12) (ctlOf Tryd.f76 gl s76) := (LoopsOk.nil rfl)
theorem z76 : (wsEm S76.em (argI s76.args) (argB s76.args) && shOk s76 && noOb S76.em) = true := by kernel_rfl
theorem d76 : Contract Tryd.prog gl 76 s76 (S76.run (tabF T12) s76.pre) := contract_of x76 Tryd.func76 y76 k76 z76
theorem c76 : Contract Tryd.prog gl 76 s76 F76 := d76
theorem call76 : ∀ args w, (callFunc 76 args).run Tryd.prog w = .ok (.enter 76 args) w := callable_of Tryd.func76 (by kernel_rfl) (by kernel_rfl)
noncomputable def e76 : Nat × Sum × Fun := (76, withInl s76 S76, F76)
noncomputable def T13 : List (Nat × Sum × Fun) := e76 :: T12
theorem A13 : AllOk Tryd.prog (tabF T13) gl (tabS T13) := AllOk.cons (s := e76.2.1) c76 call76 (fun S h => by cases h; exact ⟨rfl, fun _ _ => rfl⟩) A12
/-! seepage/tone.PulseOut -/
def s36 : Sum := { args := [(.val true [.bool, .bool, .bool, .bool, (.int .u8), (.int .u8), (.int .u8), .bool, .bool, (.int .u8), (.int .u8), (.int .u8), (.int .u16), (.int .u16), .bool, .bool, .bool, (.int .u8), (.int .u8), (.int .u8)])], tup := false, res := [(false, [(.int .u8)])], pre := true }
def S36 : Smry := (.mk [(.call 68 [(.v 0), (.v 1), (.v 2), (.v 3), (.v 4), (.v 5), (.v 6), (.v 7), (.v 8), (.v 9), (.v 10)] [(.v 0), (.v 1), (.v 2), (.v 3), (.v 4), (.v 5), (.v 6), (.v 7), (.v 8)] 11 0 9 1), (.db 10 (.not (.v 9))), (.db 11 (.cm .eql (.v 3) (.c 0))), (.db 12 (.or (.v 10) (.v 11))), (.call 74 [(.v 0), (.v 1), (.v 2), (.v 3), (.v 4), (.v 5), (.v 6), (.v 7), (.v 8), (.v 9), (.v 10)] [(.v 0), (.v 1), (.v 2), (.v 3), (.v 4), (.v 5), (.v 6), (.v 7), (.v 8)] 11 0 13 2), (.ob [((.v 12), false)] (.v 13)), (.db 15 (.or (.v 12) (.v 14))), (.db 16 (.cm .geq (.v 4) (.c 0))), (.ob [((.v 15), false)] (.v 16)), (.db 17 (.cm .lss (.v 4) (.c 4))), (.ob [((.v 15), false)] (.v 17)), (.di 11 (.tab [2, 6, 30, 249] (.v 4))), (.db 18 (.cm .geq (.v 5) (.c 0))), (.ob [((.v 15), false)] (.v 18)), (.di 12 (.ar .shr .u8 (.v 11) (.v 5))), (.di 13 (.ar .and .u8 (.v 12) (.c 1))), (.db 19 (.cm .eql (.v 13) (.c 0))), (.db 20 (.or (.v 15) (.v 19))), (.db 21 (.not (.v 2))), (.di 14 (.ite (.v 21) (.v 2) (.v 0))), (.db 22 (.not (.v 20))), (.di 15 (.ite (.v 22) (.v 14) (.c 0)))] [(.v 15)] [])
theorem k36 : fnX Tryd.prog (tabS T13) gl (ctlOf Tryd.f36 gl s36) Tryd.f36 s36 = some S36 := by kernel_rfl
noncomputable def F36 : Fun := S36.run (tabF T13) true
theorem x36 : AllOk Tryd.prog (tabF T13) gl (tabS T13) := A13
theorem y36 : LoopsOk (tabF T13) (ctlOf Tryd.f36 gl s36) := (LoopsOk.nil rfl)
theorem z36 : (wsEm S36.em (argI s36.args) (argB s36.args) && shOk s36 && s36.pre) = true := by kernel_rfl
theorem d36 : Contract Tryd.prog gl 36 s36 (S36.run (tabF T13) s36.pre) := contract_pre x36 Tryd.func36 y36 k36 z36
theorem c36 : Contract Tryd.prog gl 36 s36 F36 := d36
theorem call36 : ∀ args w, (callFunc 36 args).run Tryd.prog w = .ok (.enter 36 args) w := callable_of Tryd.func36 (by kernel_rfl) (by kernel_rfl)
noncomputable def e36 : Nat × Sum × Fun := (36, s36, F36)
noncomputable def T14 : List (Nat × Sum × Fun) := e36 :: T13
theorem A14 : AllOk Tryd.prog (tabF T14) gl (tabS T14) := AllOk.cons (s := e36.2.1) c36 call36 (fun S h => by cases h) A13
/-! seepage/seepagelaw18.awake -/
def s31 : Sum := { args := [], tup := false, res := [(false, [.bool])], pre := true }
def S31 : Smry := (.mk [(.call 32 [(.c 0), (.c 0), (.c 0), (.c 0), (.c 0), (.c 0), (.c 0), (.c 0), (.c 0), (.c 0), (.c 0), (.c 3), (.c 8)] [(.c false), (.c false), (.c false), (.c false), (.c false), (.c true), (.c false), (.c false), (.c false)] 0 11 0 10), (.ob [] (.v 0)), (.db 10 (.cm .eql (.v 3) (.c 254))), (.call 58 [(.c 0), (.c 0), (.c 0), (.c 0), (.c 0), (.c 0)] [(.c false), (.c false), (.c false)] 11 1 11 0), (.db 11 (.cm .eql (.v 11) (.c 15))), (.db 12 (.and (.v 10) (.v 11))), (.call 36 [(.c 9), (.c 0), (.c 0), (.c 5), (.c 0), (.c 1), (.c 7), (.c 0), (.c 0), (.c 0), (.c 0)] [(.c false), (.c false), (.c true), (.c false), (.c false), (.c true), (.c false), (.c false), (.c false)] 12 1 13 1), (.ob [((.v 12), true)] (.v 13)), (.db 14 (.cm .eql (.v 12) (.c 0))), (.db 15 (.and (.v 12) (.v 14))), (.call 36 [(.c 9), (.c 0), (.c 0), (.c 5), (.c 0), (.c 1), (.c 8), (.c 0), (.c 0), (.c 0), (.c 0)] [(.c false), (.c false), (.c true), (.c false), (.c false), (.c true), (.c false), (.c false), (.c false)] 13 1 16 1), (.ob [((.v 15), true)] (.v 16)), (.db 17 (.cm .eql (.v 13) (.c 9))), (.db 18 (.and (.v 15) (.v 17)))] [] [(.v 18)])
theorem k31 : fnX Tryd.prog (tabS T14) gl (ctlOf Tryd.f31 gl s31) Tryd.f31 s31 = some S31 := by kernel_rfl
noncomputable def F31 : Fun := S31.run (tabF T14) true
theorem x31 : AllOk Tryd.prog (tabF T14) gl (tabS T14) := A14
theorem y31 : LoopsOk (tabF T14) (ctlOf Tryd.f31 gl s31) := (LoopsOk.nil rfl)
theorem z31 : (wsEm S31.em (argI s31.args) (argB s31.args) && shOk s31 && s31.pre) = true := by kernel_rfl
theorem d31 : Contract Tryd.prog gl 31 s31 (S31.run (tabF T14) s31.pre) := contract_pre x31 Tryd.func31 y31 k31 z31
theorem c31 : Contract Tryd.prog gl 31 s31 F31 := d31
theorem call31 : ∀ args w, (callFunc 31 args).run Tryd.prog w = .ok (.enter 31 args) w := callable_of Tryd.func31 (by kernel_rfl) (by kernel_rfl)
noncomputable def e31 : Nat × Sum × Fun := (31, s31, F31)
noncomputable def T15 : List (Nat × Sum × Fun) := e31 :: T14
theorem A15 : AllOk Tryd.prog (tabF T15) gl (tabS T15) := AllOk.cons (s := e31.2.1) c31 call31 (fun S h => by cases h) A14
/-! seepage/tone.TriangleWrite -/
def s52 : Sum := { args := [(.val true [.bool, .bool, (.int .u8), (.int .u8), (.int .u8), .bool, (.int .u8), (.int .u16), (.int .u16)]), (.val false [(.int .i64)]), (.val false [(.int .u8)])], tup := false, res := [(true, [.bool, .bool, (.int .u8), (.int .u8), (.int .u8), .bool, (.int .u8), (.int .u16), (.int .u16)])], pre := true }
def S52 : Smry := (.mk [(.call 69 [(.v 0), (.v 1), (.v 2), (.v 3), (.v 4), (.v 5)] [(.v 0), (.v 1), (.v 2)] 8 0 3 1), (.db 4 (.not (.v 3))), (.db 5 (.cm .eql (.v 6) (.c 0))), (.di 8 (.ar .and .u8 (.v 7) (.c 128))), (.db 6 (.cm .gtr (.v 8) (.c 0))), (.di 9 (.ar .and .u8 (.v 7) (.c 127))), (.db 7 (.cm .eql (.v 6) (.c 2))), (.db 8 (.cm .eql (.v 6) (.c 3))), (.db 9 (.ite (.v 7) (.v 7) (.v 8))), (.db 10 (.cm .eql (.v 6) (.c 2))), (.di 10 (.ar .and .u16 (.v 4) (.c 1792))), (.di 11 (.cv .u16 (.v 7))), (.di 12 (.ar .or .u16 (.v 10) (.v 11))), (.di 13 (.ar .and .u16 (.v 4) (.c 255))), (.di 14 (.ar .and .u8 (.v 7) (.c 7))), (.di 15 (.cv .u16 (.v 14))), (.di 16 (.ar .shl .u16 (.v 15) (.c 8))), (.di 17 (.ar .or .u16 (.v 13) (.v 16))), (.di 18 (.ite (.v 10) (.v 12) (.v 17))), (.db 11 (.cm .eql (.v 6) (.c 3))), (.call 73 [(.v 0), (.v 7)] [(.v 0), (.v 1)] 19 1 12 3), (.ob [((.v 4), false), ((.v 5), false), ((.v 9), true), ((.v 11), true)] (.v 12)), (.db 15 (.ite (.v 11) (.v 13) (.v 0))), (.db 16 (.ite (.v 11) (.v 14) (.v 1))), (.di 20 (.ite (.v 11) (.v 19) (.v 0))), (.db 17 (.or (.v 11) (.v 2))), (.db 18 (.ite (.v 9) (.v 15) (.v 0))), (.db 19 (.ite (.v 9) (.v 16) (.v 1))), (.di 21 (.ite (.v 9) (.v 20) (.v 0))), (.db 20 (.ite (.v 9) (.v 17) (.v 2))), (.di 22 (.ite (.v 9) (.v 18) (.v 4))), (.db 21 (.ite (.v 5) (.v 6) (.v 18))), (.db 22 (.ite (.v 5) (.v 1) (.v 19))), (.di 23 (.ite (.v 5) (.v 0) (.v 21))), (.di 24 (.ite (.v 5) (.v 9) (.v 2))), (.db 23 (.ite (.v 5) (.v 2) (.v 20))), (.di 25 (.ite (.v 5) (.v 4) (.v 22))), (.db 24 (.not (.v 4))), (.db 25 (.ite (.v 24) (.v 21) (.v 0))), (.db 26 (.ite (.v 24) (.v 22) (.v 1))), (.di 26 (.ite (.v 24) (.v 23) (.v 0))), (.di 27 (.ite (.v 24) (.v 24) (.v 2))), (.db 27 (.ite (.v 24) (.v 23) (.v 2))), (.di 28 (.ite (.v 24) (.v 25) (.v 4)))] [(.v 26), (.v 1), (.v 27), (.v 3), (.v 28), (.v 5)] [(.v 25), (.v 26), (.v 27)])
theorem k52 : fnX Tryd.prog (tabS T15) gl (ctlOf Tryd.f52 gl s52) Tryd.f52 s52 = some S52 := by kernel_rfl
noncomputable def F52 : Fun := S52.run (tabF T15) true
theorem x52 : AllOk Tryd.prog (tabF T15) gl (tabS T15) := A15
theorem y52 : LoopsOk (tabF T15) (ctlOf Tryd.f52 gl s52) := (LoopsOk.nil rfl)
theorem z52 : (wsEm S52.em (argI s52.args) (argB s52.args) && shOk s52 && s52.pre) = true := by kernel_rfl
theorem d52 : Contract Tryd.prog gl 52 s52 (S52.run (tabF T15) s52.pre) := contract_pre x52 Tryd.func52 y52 k52 z52
theorem c52 : Contract Tryd.prog gl 52 s52 F52 := d52
theorem call52 : ∀ args w, (callFunc 52 args).run Tryd.prog w = .ok (.enter 52 args) w := callable_of Tryd.func52 (by kernel_rfl) (by kernel_rfl)
noncomputable def e52 : Nat × Sum × Fun := (52, s52, F52)
noncomputable def T16 : List (Nat × Sum × Fun) := e52 :: T15
theorem A16 : AllOk Tryd.prog (tabF T16) gl (tabS T16) := AllOk.cons (s := e52.2.1) c52 call52 (fun S h => by cases h) A15
/-! seepage/tone.NoiseWrite -/
def s46 : Sum := { args := [(.val true [.bool, .bool, .bool, (.int .u8), (.int .u8), (.int .u8), .bool, .bool, (.int .u8), .bool, (.int .u8), (.int .u16), (.int .u16)]), (.val false [(.int .i64)]), (.val false [(.int .u8)])], tup := false, res := [(true, [.bool, .bool, .bool, (.int .u8), (.int .u8), (.int .u8), .bool, .bool, (.int .u8), .bool, (.int .u8), (.int .u16), (.int .u16)])], pre := true }
def S46 : Smry := (.mk [(.call 70 [(.v 0), (.v 1), (.v 2), (.v 3), (.v 4), (.v 5), (.v 6)] [(.v 0), (.v 1), (.v 2), (.v 3), (.v 4), (.v 5)] 9 0 6 1), (.db 7 (.not (.v 6))), (.db 8 (.cm .eql (.v 7) (.c 0))), (.di 9 (.ar .and .u8 (.v 8) (.c 32))), (.db 9 (.cm .gtr (.v 9) (.c 0))), (.di 10 (.ar .and .u8 (.v 8) (.c 16))), (.db 10 (.cm .gtr (.v 10) (.c 0))), (.di 11 (.ar .and .u8 (.v 8) (.c 15))), (.db 11 (.cm .eql (.v 7) (.c 2))), (.di 12 (.ar .and .u8 (.v 8) (.c 128))), (.db 12 (.cm .gtr (.v 12) (.c 0))), (.di 13 (.ar .and .u8 (.v 8) (.c 15))), (.db 13 (.cm .eql (.v 7) (.c 3))), (.call 73 [(.v 3), (.v 8)] [(.v 3), (.v 4)] 14 1 14 3), (.ob [((.v 7), false), ((.v 8), false), ((.v 11), false), ((.v 13), true)] (.v 14)), (.db 17 (.or (.v 13) (.v 2))), (.db 18 (.ite (.v 13) (.v 15) (.v 3))), (.db 19 (.ite (.v 13) (.v 16) (.v 4))), (.di 15 (.ite (.v 13) (.v 14) (.v 3))), (.db 20 (.ite (.v 11) (.v 2) (.v 17))), (.db 21 (.ite (.v 11) (.v 3) (.v 18))), (.db 22 (.ite (.v 11) (.v 4) (.v 19))), (.di 16 (.ite (.v 11) (.v 3) (.v 15))), (.db 23 (.ite (.v 11) (.v 12) (.v 5))), (.di 17 (.ite (.v 11) (.v 13) (.v 4))), (.db 24 (.ite (.v 8) (.v 9) (.v 0))), (.db 25 (.ite (.v 8) (.v 10) (.v 1))), (.db 26 (.ite (.v 8) (.v 2) (.v 20))), (.di 18 (.ite (.v 8) (.v 11) (.v 0))), (.db 27 (.ite (.v 8) (.v 9) (.v 21))), (.db 28 (.ite (.v 8) (.v 4) (.v 22))), (.di 19 (.ite (.v 8) (.v 3) (.v 16))), (.db 29 (.ite (.v 8) (.v 5) (.v 23))), (.di 20 (.ite (.v 8) (.v 4) (.v 17))), (.db 30 (.not (.v 7))), (.db 31 (.ite (.v 30) (.v 24) (.v 0))), (.db 32 (.ite (.v 30) (.v 25) (.v 1))), (.db 33 (.ite (.v 30) (.v 26) (.v 2))), (.di 21 (.ite (.v 30) (.v 18) (.v 0))), (.db 34 (.ite (.v 30) (.v 27) (.v 3))), (.db 35 (.ite (.v 30) (.v 28) (.v 4))), (.di 22 (.ite (.v 30) (.v 19) (.v 3))), (.db 36 (.ite (.v 30) (.v 29) (.v 5))), (.di 23 (.ite (.v 30) (.v 20) (.v 4)))] [(.v 21), (.v 1), (.v 2), (.v 22), (.v 23), (.v 5), (.v 6)] [(.v 31), (.v 32), (.v 33), (.v 34), (.v 35), (.v 36)])
theorem k46 : fnX Tryd.prog (tabS T16) gl (ctlOf Tryd.f46 gl s46) Tryd.f46 s46 = some S46 := by kernel_rfl
noncomputable def F46 : Fun := S46.run (tabF T16) true
theorem x46 : AllOk Tryd.prog (tabF T16) gl (tabS T16) := A16
theorem y46 : LoopsOk (tabF T16) (ctlOf Tryd.f46 gl s46) := (LoopsOk.nil rfl)
theorem z46 : (wsEm S46.em (argI s46.args) (argB s46.args) && shOk s46 && s46.pre) = true := by kernel_rfl
theorem d46 : Contract Tryd.prog gl 46 s46 (S46.run (tabF T16) s46.pre) := contract_pre x46 Tryd.func46 y46 k46 z46
theorem c46 : Contract Tryd.prog gl 46 s46 F46 := d46
theorem call46 : ∀ args w, (callFunc 46 args).run Tryd.prog w = .ok (.enter 46 args) w := callable_of Tryd.func46 (by kernel_rfl) (by kernel_rfl)
noncomputable def e46 : Nat × Sum × Fun := (46, s46, F46)
noncomputable def T17 : List (Nat × Sum × Fun) := e46 :: T16
theorem A17 : AllOk Tryd.prog (tabF T17) gl (tabS T17) := AllOk.cons (s := e46.2.1) c46 call46 (fun S h => by cases h) A16
/-! seepage/tone.PulseTick -/
def s60 : Sum := { args := [(.val true [.bool, .bool, .bool, .bool, (.int .u8), (.int .u8), (.int .u8), .bool, .bool, (.int .u8), (.int .u8), (.int .u8), (.int .u16), (.int .u16), .bool, .bool, .bool, (.int .u8), (.int .u8), (.int .u8)])], tup := false, res := [(true, [.bool, .bool, .bool, .bool, (.int .u8), (.int .u8), (.int .u8), .bool, .bool, (.int .u8), (.int .u8), (.int .u8), (.int .u16), (.int .u16), .bool, .bool, .bool, (.int .u8), (.int .u8), (.int .u8)])], pre := false }
def S60 : Smry := (.mk [(.call 68 [(.v 0), (.v 1), (.v 2), (.v 3), (.v 4), (.v 5), (.v 6), (.v 7), (.v 8), (.v 9), (.v 10)] [(.v 0), (.v 1), (.v 2), (.v 3), (.v 4), (.v 5), (.v 6), (.v 7), (.v 8)] 11 0 9 1), (.db 10 (.not (.v 9))), (.db 11 (.cm .gtr (.v 7) (.c 0))), (.di 11 (.ar .sub .u16 (.v 7) (.c 1))), (.di 12 (.ar .sub .u8 (.v 5) (.c 1))), (.di 13 (.ar .and .u8 (.v 12) (.c 7))), (.di 14 (.ite (.v 11) (.v 5) (.v 13))), (.di 15 (.ite (.v 11) (.v 11) (.v 6))), (.di 16 (.ite (.v 10) (.v 5) (.v 14))), (.di 17 (.ite (.v 10) (.v 7) (.v 15)))] [(.v 0), (.v 1), (.v 2), (.v 3), (.v 4), (.v 16), (.v 6), (.v 17), (.v 8), (.v 9), (.v 10)] [(.v 0), (.v 1), (.v 2), (.v 3), (.v 4), (.v 5), (.v 6), (.v 7), (.v 8)])
theorem k60 : fnX Tryd.prog (tabS T17) gl (ctlOf Tryd.f60 gl s60) Tryd.f60 s60 = some S60 := by kernel_rfl
noncomputable def F60 : Fun := S60.run (tabF T17) false
theorem x60 : AllOk Tryd.prog (tabF T17) gl (tabS T17) := A17
theorem y60 : LoopsOk (tabF T17) (ctlOf Tryd.f60 gl s60) := (LoopsOk.nil rfl)
theorem z60 : (wsEm S60.em (argI s60.args) (argB s60.args) && shOk s60 && noOb S60.em) = true := by kernel_rfl
theorem d60 : Contract Tryd.prog gl 60 s60 (S60.run (tabF T17) s60.pre) := contract_of x60 Tryd.func60 y60 k60 z60
theorem c60 : Contract Tryd.prog gl 60 s60 F60 := d60
theorem call60 : ∀ args w, (callFunc 60 args).run Tryd.prog w = .ok (.enter 60 args) w := callable_of Tryd.func60 (by kernel_rfl) (by kernel_rfl)
noncomputable def e60 : Nat × Sum × Fun := (60, s60, F60)
noncomputable def T18 : List (Nat × Sum × Fun) := e60 :: T17
theorem A18 : AllOk Tryd.prog (tabF T18) gl (tabS T18) := AllOk.cons (s := e60.2.1) c60 call60 (fun S h => by cases h) A17
/-! seepage/tone.TriangleTick -/
def s54 : Sum := { args := [(.val true [.bool, .bool, (.int .u8), (.int .u8), (.int .u8), .bool, (.int .u8), (.int .u16), (.int .u16)])], tup := false, res := [(true, [.bool, .bool, (.int .u8), (.int .u8), (.int .u8), .bool, (.int .u8), (.int .u16), (.int .u16)])], pre := false }
def S54 : Smry := (.mk [(.call 69 [(.v 0), (.v 1), (.v 2), (.v 3), (.v 4), (.v 5)] [(.v 0), (.v 1), (.v 2)] 6 0 3 1), (.db 4 (.not (.v 3))), (.db 5 (.cm .gtr (.v 5) (.c 0))), (.di 6 (.ar .sub .u16 (.v 5) (.c 1))), (.db 6 (.cm .gtr (.v 0) (.c 0))), (.db 7 (.cm .gtr (.v 1) (.c 0))), (.db 8 (.and (.v 6) (.v 7))), (.di 7 (.ar .add .u8 (.v 3) (.c 1))), (.di 8 (.ar .and .u8 (.v 7) (.c 31))), (.di 9 (.ite (.v 8) (.v 8) (.v 3))), (.di 10 (.ite (.v 5) (.v 3) (.v 9))), (.di 11 (.ite (.v 5) (.v 6) (.v 4))), (.di 12 (.ite (.v 4) (.v 3) (.v 10))), (.di 13 (.ite (.v 4) (.v 5) (.v 11)))] [(.v 0), (.v 1), (.v 2), (.v 12), (.v 4), (.v 13)] [(.v 0), (.v 1), (.v 2)])
theorem k54 : fnX Tryd.prog (tabS T18) gl (ctlOf Tryd.f54 gl s54) Tryd.f54 s54 = some S54 := by kernel_rfl
noncomputable def F54 : Fun := S54.run (tabF T18) false
theorem x54 : AllOk Tryd.prog (tabF T18) gl (tabS T18) := A18
theorem y54 : LoopsOk (tabF T18) (ctlOf Tryd.f54 gl s54) := (LoopsOk.nil rfl)
theorem z54 : (wsEm S54.em (argI s54.args) (argB s54.args) && shOk s54 && noOb S54.em) = true := by kernel_rfl
theorem d54 : Contract Tryd.prog gl 54 s54 (S54.run (tabF T18) s54.pre) := contract_of x54 Tryd.func54 y54 k54 z54
theorem c54 : Contract Tryd.prog gl 54 s54 F54 := d54
theorem call54 : ∀ args w, (callFunc 54 args).run Tryd.prog w = .ok (.enter 54 args) w := callable_of Tryd.func54 (by kernel_rfl) (by kernel_rfl)
noncomputable def e54 : Nat × Sum × Fun := (54, s54, F54)
noncomputable def T19 : List (Nat × Sum × Fun) := e54 :: T18
theorem A19 : AllOk Tryd.prog (tabF T19) gl (tabS T19) := AllOk.cons (s := e54.2.1) c54 call54 (fun S h => by cases h) A18
/-! seepage/tone.NoiseTick -/
def s48 : Sum := { args := [(.val true [.bool, .bool, .bool, (.int .u8), (.int .u8), (.int .u8), .bool, .bool, (.int .u8), .bool, (.int .u8), (.int .u16), (.int .u16)])], tup := false, res := [(true, [.bool, .bool, .bool, (.int .u8), (.int .u8), (.int .u8), .bool, .bool, (.int .u8), .bool, (.int .u8), (.int .u16), (.int .u16)])], pre := true }
def S48 : Smry := (.mk [(.call 70 [(.v 0), (.v 1), (.v 2), (.v 3), (.v 4), (.v 5), (.v 6)] [(.v 0), (.v 1), (.v 2), (.v 3), (.v 4), (.v 5)] 7 0 6 1), (.db 7 (.not (.v 6))), (.db 8 (.cm .gtr (.v 5) (.c 0))), (.di 7 (.ar .sub .u16 (.v 5) (.c 1))), (.db 9 (.or (.v 7) (.v 8))), (.di 8 (.ite (.v 7) (.v 5) (.v 7))), (.db 10 (.cm .geq (.v 4) (.c 0))), (.ob [((.v 7), false), ((.v 8), false)] (.v 10)), (.db 11 (.cm .lss (.v 4) (.c 16))), (.ob [((.v 7), false), ((.v 8), false)] (.v 11)), (.di 9 (.tab [4, 8, 16, 32, 64, 96, 128, 160, 202, 254, 380, 508, 762, 1016, 2034, 4068] (.v 4))), (.di 10 (.ar .sub .u16 (.v 9) (.c 1))), (.di 11 (.ite (.v 5) (.c 6) (.c 1))), (.di 12 (.ar .shr .u16 (.v 6) (.c 1))), (.db 12 (.cm .geq (.v 11) (.c 0))), (.ob [((.v 7), false), ((.v 8), false)] (.v 12)), (.di 13 (.ar .shr .u16 (.v 6) (.v 11))), (.di 14 (.ar .xor .u16 (.v 6) (.v 13))), (.di 15 (.ar .and .u16 (.v 14) (.c 1))), (.di 16 (.ar .shl .u16 (.v 15) (.c 14))), (.di 17 (.ar .or .u16 (.v 12) (.v 16))), (.db 13 (.not (.v 7))), (.db 14 (.not (.v 8))), (.db 15 (.and (.v 13) (.v 14))), (.di 18 (.ite (.v 15) (.v 10) (.v 8))), (.di 19 (.ite (.v 15) (.v 17) (.v 6)))] [(.v 0), (.v 1), (.v 2), (.v 3), (.v 4), (.v 18), (.v 19)] [(.v 0), (.v 1), (.v 2), (.v 3), (.v 4), (.v 5)])
theorem k48 : fnX Tryd.prog (tabS T19) gl (ctlOf Tryd.f48 gl s48) Tryd.f48 s48 = some S48 := by kernel_rfl
noncomputable def F48 : Fun := S48.run (tabF T19) true
theorem x48 : AllOk Tryd.prog (tabF T19) gl (tabS T19) := A19
theorem y48 : LoopsOk (tabF T19) (ctlOf Tryd.f48 gl s48) := (LoopsOk.nil rfl)
theorem z48 : (wsEm S48.em (argI s48.args) (argB s48.args) && shOk s48 && s48.pre) = true := by kernel_rfl
theorem d48 : Contract Tryd.prog gl 48 s48 (S48.run (tabF T19) s48.pre) := contract_pre x48 Tryd.func48 y48 k48 z48
theorem c48 : Contract Tryd.prog gl 48 s48 F48 := d48
theorem call48 : ∀ args w, (callFunc 48 args).run Tryd.prog w = .ok (.enter 48 args) w := callable_of Tryd.func48 (by kernel_rfl) (by kernel_rfl)
noncomputable def e48 : Nat × Sum × Fun := (48, s48, F48)
noncomputable def T20 : List (Nat × Sum × Fun) := e48 :: T19
theorem A20 : AllOk Tryd.prog (tabF T20) gl (tabS T20) := AllOk.cons (s := e48.2.1) c48 call48 (fun S h => by cases h) A19
/-! seepage/tone.EnvClock -/
def s40 : Sum := { args := [(.val true [.bool, .bool, .bool, (.int .u8), (.int .u8), (.int .u8)])], tup := false, res := [(true, [.bool, .bool, .bool, (.int .u8), (.int .u8), (.int .u8)])], pre := false }
def S40 : Smry := (.mk [(.di 3 (.mx (.v 0) (.v 1))), (.di 4 (.mx (.v 3) (.v 2))), (.db 3 (.cm .lss (.v 4) (.c 16))), (.db 4 (.not (.v 3))), (.db 5 (.cm .gtr (.v 1) (.c 0))), (.di 5 (.ar .sub .u8 (.v 1) (.c 1))), (.db 6 (.cm .gtr (.v 2) (.c 0))), (.di 6 (.ar .sub .u8 (.v 2) (.c 1))), (.di 7 (.ite (.v 0) (.c 15) (.v 2))), (.di 8 (.ite (.v 6) (.v 6) (.v 7))), (.di 9 (.ite (.v 5) (.v 5) (.v 0))), (.di 10 (.ite (.v 5) (.v 2) (.v 8))), (.db 7 (.ite (.v 2) (.c false) (.v 2))), (.di 11 (.ite (.v 2) (.v 0) (.v 9))), (.di 12 (.ite (.v 2) (.c 15) (.v 10))), (.db 8 (.ite (.v 4) (.v 2) (.v 7))), (.di 13 (.ite (.v 4) (.v 1) (.v 11))), (.di 14 (.ite (.v 4) (.v 2) (.v 12)))] [(.v 0), (.v 13), (.v 14)] [(.v 0), (.v 1), (.v 8)])
theorem k40 : fnX Tryd.prog (tabS T20) gl (ctlOf Tryd.f40 gl s40) Tryd.f40 s40 = some S40 := by kernel_rfl
noncomputable def F40 : Fun := S40.run (tabF T20) false
theorem x40 : AllOk Tryd.prog (tabF T20) gl (tabS T20) := A20
theorem y40 : LoopsOk (tabF T20) (ctlOf Tryd.f40 gl s40) := (LoopsOk.nil rfl)
theorem z40 : (wsEm S40.em (argI s40.args) (argB s40.args) && shOk s40 && noOb S40.em) = true := by kernel_rfl
theorem d40 : Contract Tryd.prog gl 40 s40 (S40.run (tabF T20) s40.pre) := contract_of x40 Tryd.func40 y40 k40 z40
theorem c40 : Contract Tryd.prog gl 40 s40 F40 := d40
theorem call40 : ∀ args w, (callFunc 40 args).run Tryd.prog w = .ok (.enter 40 args) w := callable_of Tryd.func40 (by kernel_rfl) (by kernel_rfl)
noncomputable def e40 : Nat × Sum × Fun := (40, s40, F40)
noncomputable def T21 : List (Nat × Sum × Fun) := e40 :: T20
theorem A21 : AllOk Tryd.prog (tabF T21) gl (tabS T21) := AllOk.cons (s := e40.2.1) c40 call40 (fun S h => by cases h) A20
/-! seepage/tone.PulseQuarter -/
def s63 : Sum := { args := [(.val true [.bool, .bool, .bool, .bool, (.int .u8), (.int .u8), (.int .u8), .bool, .bool, (.int .u8), (.int .u8), (.int .u8), (.int .u16), (.int .u16), .bool, .bool, .bool, (.int .u8), (.int .u8), (.int .u8)])], tup := false, res := [(true, [.bool, .bool, .bool, .bool, (.int .u8), (.int .u8), (.int .u8), .bool, .bool, (.int .u8), (.int .u8), (.int .u8), (.int .u16), (.int .u16), .bool, .bool, .bool, (.int .u8), (.int .u8), (.int .u8)])], pre := false }
def S63 : Smry := (.mk [(.call 68 [(.v 0), (.v 1), (.v 2), (.v 3), (.v 4), (.v 5), (.v 6), (.v 7), (.v 8), (.v 9), (.v 10)] [(.v 0), (.v 1), (.v 2), (.v 3), (.v 4), (.v 5), (.v 6), (.v 7), (.v 8)] 11 0 9 1), (.call 40 [(.v 0), (.v 1), (.v 2)] [(.v 1), (.v 2), (.v 3)] 11 3 10 3), (.db 13 (.ite (.v 9) (.v 10) (.v 1))), (.db 14 (.ite (.v 9) (.v 11) (.v 2))), (.db 15 (.ite (.v 9) (.v 12) (.v 3))), (.di 14 (.ite (.v 9) (.v 11) (.v 0))), (.di 15 (.ite (.v 9) (.v 12) (.v 1))), (.di 16 (.ite (.v 9) (.v 13) (.v 2)))] [(.v 14), (.v 15), (.v 16), (.v 3), (.v 4), (.v 5), (.v 6), (.v 7), (.v 8), (.v 9), (.v 10)] [(.v 0), (.v 13), (.v 14), (.v 15), (.v 4), (.v 5), (.v 6), (.v 7), (.v 8)])
theorem k63 : fnX Tryd.prog (tabS T21) gl (ctlOf Tryd.f63 gl s63) Tryd.f63 s63 = some S63 := by kernel_rfl
noncomputable def F63 : Fun := S63.run (tabF T21) false
theorem x63 : AllOk Tryd.prog (tabF T21) gl (tabS T21) := A21
theorem y63 : LoopsOk (tabF T21) (ctlOf Tryd.f63 gl s63) := (LoopsOk.nil rfl)
theorem z63 : (wsEm S63.em (argI s63.args) (argB s63.args) && shOk s63 && noOb S63.em) = true := by kernel_rfl
theorem d63 : Contract Tryd.prog gl 63 s63 (S63.run (tabF T21) s63.pre) := contract_of x63 Tryd.func63 y63 k63 z63
theorem c63 : Contract Tryd.prog gl 63 s63 F63 := d63
theorem call63 : ∀ args w, (callFunc 63 args).run Tryd.prog w = .ok (.enter 63 args) w := callable_of Tryd.func63 (by kernel_rfl) (by kernel_rfl)
noncomputable def e63 : Nat × Sum × Fun := (63, s63, F63)
noncomputable def T22 : List (Nat × Sum × Fun) := e63 :: T21
theorem A22 : AllOk Tryd.prog (tabF T22) gl (tabS T22) := AllOk.cons (s := e63.2.1) c63 call63 (fun S h => by cases h) A21
/-! seepage/tone.TriangleQuarter -/
def s56 : Sum := { args := [(.val true [.bool, .bool, (.int .u8), (.int .u8), (.int .u8), .bool, (.int .u8), (.int .u16), (.int .u16)])], tup := false, res := [(true, [.bool, .bool, (.int .u8), (.int .u8), (.int .u8), .bool, (.int .u8), (.int .u16), (.int .u16)])], pre := false }
def S56 : Smry := (.mk [(.call 69 [(.v 0), (.v 1), (.v 2), (.v 3), (.v 4), (.v 5)] [(.v 0), (.v 1), (.v 2)] 6 0 3 1), (.db 4 (.not (.v 3))), (.db 5 (.cm .gtr (.v 1) (.c 0))), (.di 6 (.ar .sub .u8 (.v 1) (.c 1))), (.di 7 (.ite (.v 5) (.v 6) (.v 1))), (.di 8 (.ite (.v 2) (.v 2) (.v 7))), (.db 6 (.and (.v 2) (.v 0))), (.db 7 (.not (.v 4))), (.di 9 (.ite (.v 7) (.v 8) (.v 1))), (.db 8 (.ite (.v 7) (.v 6) (.v 2)))] [(.v 0), (.v 9), (.v 2), (.v 3), (.v 4), (.v 5)] [(.v 0), (.v 1), (.v 8)])
theorem k56 : fnX Tryd.prog (tabS T22) gl (ctlOf Tryd.f56 gl s56) Tryd.f56 s56 = some S56 := by kernel_rfl
noncomputable def F56 : Fun := S56.run (tabF T22) false
theorem x56 : AllOk Tryd.prog (tabF T22) gl (tabS T22) := A22
theorem y56 : LoopsOk (tabF T22) (ctlOf Tryd.f56 gl s56) := (LoopsOk.nil rfl)
theorem z56 : (wsEm S56.em (argI s56.args) (argB s56.args) && shOk s56 && noOb S56.em) = true := by kernel_rfl
theorem d56 : Contract Tryd.prog gl 56 s56 (S56.run (tabF T22) s56.pre) := contract_of x56 Tryd.func56 y56 k56 z56
theorem c56 : Contract Tryd.prog gl 56 s56 F56 := d56
theorem call56 : ∀ args w, (callFunc 56 args).run Tryd.prog w = .ok (.enter 56 args) w := callable_of Tryd.func56 (by kernel_rfl) (by kernel_rfl)
noncomputable def e56 : Nat × Sum × Fun := (56, s56, F56)
noncomputable def T23 : List (Nat × Sum × Fun) := e56 :: T22
theorem A23 : AllOk Tryd.prog (tabF T23) gl (tabS T23) := AllOk.cons (s := e56.2.1) c56 call56 (fun S h => by cases h) A22
/-! seepage/tone.LongClock -/
def s42 : Sum := { args := [(.val true [.bool, .bool, (.int .u8)])], tup := false, res := [(true, [.bool, .bool, (.int .u8)])], pre := false }
def S42 : Smry := (.mk [(.db 2 (.cm .gtr (.v 0) (.c 0))), (.db 3 (.not (.v 0))), (.db 4 (.and (.v 2) (.v 3))), (.di 1 (.ar .sub .u8 (.v 0) (.c 1))), (.di 2 (.ite (.v 4) (.v 1) (.v 0)))] [(.v 2)] [(.v 0), (.v 1)])
theorem k42 : fnX Tryd.prog (tabS T23) gl (ctlOf Tryd.f42 gl s42) Tryd.f42 s42 = some S42 := by kernel_rfl
noncomputable def F42 : Fun := S42.run (tabF T23) false
theorem x42 : AllOk Tryd.prog (tabF T23) gl (tabS T23) := A23
theorem y42 : LoopsOk (tabF T23) (ctlOf Tryd.f42 gl s42) := (LoopsOk.nil rfl)
theorem z42 : (wsEm S42.em (argI s42.args) (argB s42.args) && shOk s42 && noOb S42.em) = true := by kernel_rfl
theorem d42 : Contract Tryd.prog gl 42 s42 (S42.run (tabF T23) s42.pre) := contract_of x42 Tryd.func42 y42 k42 z42
theorem c42 : Contract Tryd.prog gl 42 s42 F42 := d42
theorem call42 : ∀ args w, (callFunc 42 args).run Tryd.prog w = .ok (.enter 42 args) w := callable_of Tryd.func42 (by kernel_rfl) (by kernel_rfl)
noncomputable def e42 : Nat × Sum × Fun := (42, s42, F42)
noncomputable def T24 : List (Nat × Sum × Fun) := e42 :: T23
theorem A24 : AllOk Tryd.prog (tabF T24) gl (tabS T24) := AllOk.cons (s := e42.2.1) c42 call42 (fun S h => by cases h) A23
/-! seepage/tone.PulseHalf -/
def s35 : Sum := { args := [(.val true [.bool, .bool, .bool, .bool, (.int .u8), (.int .u8), (.int .u8), .bool, .bool, (.int .u8), (.int .u8), (.int .u8), (.int .u16), (.int .u16), .bool, .bool, .bool, (.int .u8), (.int .u8), (.int .u8)])], tup := false, res := [(true, [.bool, .bool, .bool, .bool, (.int .u8), (.int .u8), (.int .u8), .bool, .bool, (.int .u8), (.int .u8), (.int .u8), (.int .u16), (.int .u16), .bool, .bool, .bool, (.int .u8), (.int .u8), (.int .u8)])], pre := true }
def S35 : Smry := (.mk [(.call 68 [(.v 0), (.v 1), (.v 2), (.v 3), (.v 4), (.v 5), (.v 6), (.v 7), (.v 8), (.v 9), (.v 10)] [(.v 0), (.v 1), (.v 2), (.v 3), (.v 4), (.v 5), (.v 6), (.v 7), (.v 8)] 11 0 9 1), (.db 10 (.not (.v 9))), (.call 42 [(.v 3)] [(.v 4), (.v 5)] 11 1 11 2), (.db 13 (.cm .eql (.v 10) (.c 0))), (.db 14 (.and (.v 13) (.v 6))), (.db 15 (.cm .gtr (.v 9) (.c 0))), (.db 16 (.and (.v 14) (.v 15))), (.call 74 [(.v 0), (.v 1), (.v 2), (.v 11), (.v 4), (.v 5), (.v 6), (.v 7), (.v 8), (.v 9), (.v 10)] [(.v 0), (.v 1), (.v 2), (.v 3), (.v 11), (.v 12), (.v 6), (.v 7), (.v 8)] 12 0 17 2), (.ob [((.v 10), false), ((.v 16), true)] (.v 17)), (.db 19 (.not (.v 18))), (.db 20 (.and (.v 16) (.v 19))), (.call 75 [(.v 0), (.v 1), (.v 2), (.v 11), (.v 4), (.v 5), (.v 6), (.v 7), (.v 8), (.v 9), (.v 10)] [(.v 0), (.v 1), (.v 2), (.v 3), (.v 11), (.v 12), (.v 6), (.v 7), (.v 8)] 12 1 21 1), (.ob [((.v 10), false), ((.v 20), true)] (.v 21)), (.di 13 (.ite (.v 20) (.v 12) (.v 6))), (.db 22 (.cm .eql (.v 10) (.c 0))), (.db 23 (.or (.v 22) (.v 8))), (.di 14 (.ar .sub .u8 (.v 10) (.c 1))), (.db 24 (.ite (.v 23) (.c false) (.v 8))), (.di 15 (.ite (.v 23) (.v 8) (.v 14))), (.db 25 (.not (.v 10))), (.db 26 (.ite (.v 25) (.v 11) (.v 4))), (.db 27 (.ite (.v 25) (.v 12) (.v 5))), (.di 16 (.ite (.v 25) (.v 11) (.v 3))), (.di 17 (.ite (.v 25) (.v 13) (.v 6))), (.db 28 (.ite (.v 25) (.v 24) (.v 8))), (.di 18 (.ite (.v 25) (.v 15) (.v 10)))] [(.v 0), (.v 1), (.v 2), (.v 16), (.v 4), (.v 5), (.v 17), (.v 7), (.v 8), (.v 9), (.v 18)] [(.v 0), (.v 1), (.v 2), (.v 3), (.v 26), (.v 27), (.v 6), (.v 7), (.v 28)])
theorem k35 : fnX Tryd.prog (tabS T24) gl (ctlOf Tryd.f35 gl s35) Tryd.f35 s35 = some S35 := by kernel_rfl
noncomputable def F35 : Fun := S35.run (tabF T24) true
theorem x35 : AllOk Tryd.prog (tabF T24) gl (tabS T24) := A24
theorem y35 : LoopsOk (tabF T24) (ctlOf Tryd.f35 gl s35) := (LoopsOk.nil rfl)
theorem z35 : (wsEm S35.em (argI s35.args) (argB s35.args) && shOk s35 && s35.pre) = true := by kernel_rfl
theorem d35 : Contract Tryd.prog gl 35 s35 (S35.run (tabF T24) s35.pre) := contract_pre x35 Tryd.func35 y35 k35 z35
theorem c35 : Contract Tryd.prog gl 35 s35 F35 := d35
theorem call35 : ∀ args w, (callFunc 35 args).run Tryd.prog w = .ok (.enter 35 args) w := callable_of Tryd.func35 (by kernel_rfl) (by kernel_rfl)
noncomputable def e35 : Nat × Sum × Fun := (35, s35, F35)
noncomputable def T25 : List (Nat × Sum × Fun) := e35 :: T24
theorem A25 : AllOk Tryd.prog (tabF T25) gl (tabS T25) := AllOk.cons (s := e35.2.1) c35 call35 (fun S h => by cases h) A24
/-! seepage/tone.NoiseOut -/
def s50 : Sum := { args := [(.val true [.bool, .bool, .bool, (.int .u8), (.int .u8), (.int .u8), .bool, .bool, (.int .u8), .bool, (.int .u8), (.int .u16), (.int .u16)])], tup := false, res := [(false, [(.int .u8)])], pre := false }
def S50 : Smry := (.mk [(.call 70 [(.v 0), (.v 1), (.v 2), (.v 3), (.v 4), (.v 5), (.v 6)] [(.v 0), (.v 1), (.v 2), (.v 3), (.v 4), (.v 5)] 7 0 6 1), (.db 7 (.not (.v 6))), (.db 8 (.cm .eql (.v 3) (.c 0))), (.db 9 (.or (.v 7) (.v 8))), (.di 7 (.ar .and .u16 (.v 6) (.c 1))), (.db 10 (.cm .gtr (.v 7) (.c 0))), (.db 11 (.or (.v 9) (.v 10))), (.db 12 (.not (.v 1))), (.di 8 (.ite (.v 12) (.v 2) (.v 0))), (.db 13 (.not (.v 11))), (.di 9 (.ite (.v 13) (.v 8) (.c 0)))] [(.v 9)] [])
theorem k50 : fnX Tryd.prog (tabS T25) gl (ctlOf Tryd.f50 gl s50) Tryd.f50 s50 = some S50 := by kernel_rfl
noncomputable def F50 : Fun := S50.run (tabF T25) false
theorem x50 : AllOk Tryd.prog (tabF T25) gl (tabS T25) := A25
theorem y50 : LoopsOk (tabF T25) (ctlOf Tryd.f50 gl s50) := (LoopsOk.nil rfl)
theorem z50 : (wsEm S50.em (argI s50.args) (argB s50.args) && shOk s50 && noOb S50.em) = true := by kernel_rfl
theorem d50 : Contract Tryd.prog gl 50 s50 (S50.run (tabF T25) s50.pre) := contract_of x50 Tryd.func50 y50 k50 z50
theorem c50 : Contract Tryd.prog gl 50 s50 F50 := d50
theorem call50 : ∀ args w, (callFunc 50 args).run Tryd.prog w = .ok (.enter 50 args) w := callable_of Tryd.func50 (by kernel_rfl) (by kernel_rfl)
noncomputable def e50 : Nat × Sum × Fun := (50, s50, F50)
noncomputable def T26 : List (Nat × Sum × Fun) := e50 :: T25
theorem A26 : AllOk Tryd.prog (tabF T26) gl (tabS T26) := AllOk.cons (s := e50.2.1) c50 call50 (fun S h => by cases h) A25
/-! seepage/seepagelaw18.ToneStays -/
def s14 : Sum := { args := [(.val true [.bool, .bool, .bool, .bool, (.int .u8), (.int .u8), (.int .u8), .bool, .bool, (.int .u8), (.int .u8), (.int .u8), (.int .u16), (.int .u16), .bool, .bool, .bool, (.int .u8), (.int .u8), (.int .u8), .bool, .bool, (.int .u8), (.int .u8), (.int .u8), .bool, (.int .u8), (.int .u16), (.int .u16), .bool, .bool, .bool, (.int .u8), (.int .u8), (.int .u8), .bool, .bool, (.int .u8), .bool, (.int .u8), (.int .u16), (.int .u16), (.int .i64), (.int .u8)]), (.sli [(.int .u16)])], tup := false, res := [(false, [.bool])], pre := true }
def S14 : Smry := (.mk [(.call 30 [(.v 0), (.v 1), (.v 2), (.v 3), (.v 4), (.v 5), (.v 6), (.v 7), (.v 8), (.v 9), (.v 10), (.v 11), (.v 12), (.v 13), (.v 14), (.v 15), (.v 16), (.v 17), (.v 18), (.v 19), (.v 20), (.v 21), (.v 22), (.v 23)] [(.v 0), (.v 1), (.v 2), (.v 3), (.v 4), (.v 5), (.v 6), (.v 7), (.v 8), (.v 9), (.v 10), (.v 11), (.v 12), (.v 13), (.v 14), (.v 15), (.v 16), (.v 17)] 28 1 18 0), (.db 18 (.cm .neq (.v 28) (.c 0))), (.call 31 [] [] 29 0 19 2), (.ob [((.v 18), true)] (.v 19)), (.call 101400 [(.v 26), (.v 27), (.c 0), (.v 0), (.v 1), (.v 2), (.v 3), (.v 4), (.v 5), (.v 6), (.v 7), (.v 8), (.v 9), (.v 10), (.v 11), (.v 12), (.v 13), (.v 14), (.v 15), (.v 16), (.v 17), (.v 18), (.v 19), (.v 20), (.v 21), (.v 22), (.v 23)] [(.v 0), (.v 1), (.v 2), (.v 3), (.v 4), (.v 5), (.v 6), (.v 7), (.v 8), (.v 9), (.v 10), (.v 11), (.v 12), (.v 13), (.v 14), (.v 15), (.v 16), (.v 17)] 29 0 21 3), (.ob [((.v 18), false)] (.v 21)), (.call 31 [] [] 29 0 24 2), (.ob [((.v 18), false), ((.v 23), true)] (.v 24)), (.db 26 (.and (.v 23) (.v 25))), (.db 27 (.not (.v 18))), (.db 28 (.ite (.v 27) (.v 26) (.v 20)))] [] [(.v 28)])
def L101400 : LAnn := { id := 101400, ga := [26, 27], gb := [], hv := [8], dr := [3, 11, 12, 13, 14, 15, 16, 17, 19, 20, 21, 22, 23, 24, 25, 26, 27, 28, 29, 30, 31, 32, 34, 35, 36, 37, 38, 39, 40, 41, 42, 43, 44, 45, 46, 47, 48, 49, 50, 51, 52, 55, 56, 57, 58, 59, 60, 61, 62, 63, 64, 65, 66, 67, 69, 70, 71, 72, 73, 74, 75, 77, 78, 79, 80, 81, 83, 84, 85, 86, 87, 88, 89, 90, 91, 92, 93, 94, 95, 96, 97, 98, 99, 100, 101, 102, 103, 104, 106], hb := [5, 6, 7], db := [], xs := [4], xb := [], nI := 27, nB := 18, S := (.mk [(.db 18 (.cm .lss (.v 2) (.v 1))), (.db 19 (.cm .lss (.v 2) (.c 100))), (.db 20 (.and (.v 18) (.v 19))), (.db 21 (.cm .geq (.v 2) (.c 0))), (.ob [((.v 20), true)] (.v 21)), (.db 22 (.cm .lss (.v 2) (.v 1))), (.ob [((.v 20), true)] (.v 22)), (.di 27 (.get (.v 0) (.v 2) 1 0)), (.di 28 (.ar .shr .u16 (.v 27) (.c 8))), (.di 29 (.ar .and .u16 (.v 28) (.c 3))), (.di 30 (.cv .i64 (.v 29))), (.db 23 (.cm .geq (.v 2) (.c 0))), (.ob [((.v 20), true)] (.v 23)), (.db 24 (.cm .lss (.v 2) (.v 1))), (.ob [((.v 20), true)] (.v 24)), (.di 31 (.get (.v 0) (.v 2) 1 0)), (.di 32 (.cv .u8 (.v 31))), (.db 25 (.cm .geq (.v 2) (.c 0))), (.ob [((.v 20), true)] (.v 25)), (.db 26 (.cm .lss (.v 2) (.v 1))), (.ob [((.v 20), true)] (.v 26)), (.di 33 (.get (.v 0) (.v 2) 1 0)), (.di 34 (.ar .shr .u16 (.v 33) (.c 10))), (.di 35 (.ar .rem .u16 (.v 34) (.c 4))), (.db 27 (.cm .eql (.v 35) (.c 0))), (.call 32 [(.v 3), (.v 4), (.v 5), (.v 6), (.v 7), (.v 8), (.v 9), (.v 10), (.v 11), (.v 12), (.v 13), (.v 30), (.v 32)] [(.v 0), (.v 1), (.v 2), (.v 3), (.v 4), (.v 5), (.v 6), (.v 7), (.v 8)] 36 11 28 10), (.ob [((.v 20), true), ((.v 27), true)] (.v 28)), (.call 52 [(.v 14), (.v 15), (.v 16), (.v 17), (.v 18), (.v 19), (.v 30), (.v 32)] [(.v 9), (.v 10), (.v 11)] 47 6 38 4), (.ob [((.v 20), true), ((.v 27), true)] (.v 38)), (.call 46 [(.v 20), (.v 21), (.v 22), (.v 23), (.v 24), (.v 25), (.v 26), (.v 30), (.v 32)] [(.v 12), (.v 13), (.v 14), (.v 15), (.v 16), (.v 17)] 53 7 42 7), (.ob [((.v 20), true), ((.v 27), true)] (.v 42)), (.db 49 (.cm .eql (.v 35) (.c 1))), (.call 60 [(.v 3), (.v 4), (.v 5), (.v 6), (.v 7), (.v 8), (.v 9), (.v 10), (.v 11), (.v 12), (.v 13)] [(.v 0), (.v 1), (.v 2), (.v 3), (.v 4), (.v 5), (.v 6), (.v 7), (.v 8)] 60 11 50 9), (.call 54 [(.v 14), (.v 15), (.v 16), (.v 17), (.v 18), (.v 19)] [(.v 9), (.v 10), (.v 11)] 71 6 59 3), (.call 48 [(.v 20), (.v 21), (.v 22), (.v 23), (.v 24), (.v 25), (.v 26)] [(.v 12), (.v 13), (.v 14), (.v 15), (.v 16), (.v 17)] 77 7 62 7), (.ob [((.v 20), true), ((.v 27), false), ((.v 49), true)] (.v 62)), (.db 69 (.cm .eql (.v 35) (.c 2))), (.call 63 [(.v 3), (.v 4), (.v 5), (.v 6), (.v 7), (.v 8), (.v 9), (.v 10), (.v 11), (.v 12), (.v 13)] [(.v 0), (.v 1), (.v 2), (.v 3), (.v 4), (.v 5), (.v 6), (.v 7), (.v 8)] 84 11 70 9), (.call 56 [(.v 14), (.v 15), (.v 16), (.v 17), (.v 18), (.v 19)] [(.v 9), (.v 10), (.v 11)] 95 6 79 3), (.db 82 (.cm .eql (.v 35) (.c 3))), (.call 35 [(.v 3), (.v 4), (.v 5), (.v 6), (.v 7), (.v 8), (.v 9), (.v 10), (.v 11), (.v 12), (.v 13)] [(.v 0), (.v 1), (.v 2), (.v 3), (.v 4), (.v 5), (.v 6), (.v 7), (.v 8)] 101 11 83 10), (.ob [((.v 20), true), ((.v 27), false), ((.v 49), false), ((.v 69), false), ((.v 82), true)] (.v 83)), (.db 93 (.ite (.v 82) (.v 84) (.v 0))), (.db 94 (.ite (.v 82) (.v 85) (.v 1))), (.db 95 (.ite (.v 82) (.v 86) (.v 2))), (.db 96 (.ite (.v 82) (.v 87) (.v 3))), (.di 112 (.ite (.v 82) (.v 101) (.v 3))), (.di 113 (.ite (.v 82) (.v 102) (.v 4))), (.di 114 (.ite (.v 82) (.v 103) (.v 5))), (.db 97 (.ite (.v 82) (.v 88) (.v 4))), (.db 98 (.ite (.v 82) (.v 89) (.v 5))), (.di 115 (.ite (.v 82) (.v 104) (.v 6))), (.di 116 (.ite (.v 82) (.v 105) (.v 7))), (.di 117 (.ite (.v 82) (.v 106) (.v 8))), (.di 118 (.ite (.v 82) (.v 107) (.v 9))), (.di 119 (.ite (.v 82) (.v 108) (.v 10))), (.db 99 (.ite (.v 82) (.v 90) (.v 6))), (.db 100 (.ite (.v 82) (.v 91) (.v 7))), (.db 101 (.ite (.v 82) (.v 92) (.v 8))), (.di 120 (.ite (.v 82) (.v 109) (.v 11))), (.di 121 (.ite (.v 82) (.v 110) (.v 12))), (.di 122 (.ite (.v 82) (.v 111) (.v 13))), (.db 102 (.ite (.v 69) (.v 79) (.v 9))), (.db 103 (.ite (.v 69) (.v 80) (.v 10))), (.di 123 (.ite (.v 69) (.v 95) (.v 14))), (.di 124 (.ite (.v 69) (.v 96) (.v 15))), (.di 125 (.ite (.v 69) (.v 97) (.v 16))), (.db 104 (.ite (.v 69) (.v 81) (.v 11))), (.di 126 (.ite (.v 69) (.v 98) (.v 17))), (.di 127 (.ite (.v 69) (.v 99) (.v 18))), (.di 128 (.ite (.v 69) (.v 100) (.v 19))), (.db 105 (.ite (.v 69) (.v 70) (.v 93))), (.db 106 (.ite (.v 69) (.v 71) (.v 94))), (.db 107 (.ite (.v 69) (.v 72) (.v 95))), (.db 108 (.ite (.v 69) (.v 73) (.v 96))), (.di 129 (.ite (.v 69) (.v 84) (.v 112))), (.di 130 (.ite (.v 69) (.v 85) (.v 113))), (.di 131 (.ite (.v 69) (.v 86) (.v 114))), (.db 109 (.ite (.v 69) (.v 74) (.v 97))), (.db 110 (.ite (.v 69) (.v 75) (.v 98))), (.di 132 (.ite (.v 69) (.v 87) (.v 115))), (.di 133 (.ite (.v 69) (.v 88) (.v 116))), (.di 134 (.ite (.v 69) (.v 89) (.v 117))), (.di 135 (.ite (.v 69) (.v 90) (.v 118))), (.di 136 (.ite (.v 69) (.v 91) (.v 119))), (.db 111 (.ite (.v 69) (.v 76) (.v 99))), (.db 112 (.ite (.v 69) (.v 77) (.v 100))), (.db 113 (.ite (.v 69) (.v 78) (.v 101))), (.di 137 (.ite (.v 69) (.v 92) (.v 120))), (.di 138 (.ite (.v 69) (.v 93) (.v 121))), (.di 139 (.ite (.v 69) (.v 94) (.v 122))), (.db 114 (.ite (.v 49) (.v 63) (.v 12))), (.db 115 (.ite (.v 49) (.v 64) (.v 13))), (.db 116 (.ite (.v 49) (.v 65) (.v 14))), (.di 140 (.ite (.v 49) (.v 77) (.v 20))), (.di 141 (.ite (.v 49) (.v 78) (.v 21))), (.di 142 (.ite (.v 49) (.v 79) (.v 22))), (.db 117 (.ite (.v 49) (.v 66) (.v 15))), (.db 118 (.ite (.v 49) (.v 67) (.v 16))), (.di 143 (.ite (.v 49) (.v 80) (.v 23))), (.db 119 (.ite (.v 49) (.v 68) (.v 17))), (.di 144 (.ite (.v 49) (.v 81) (.v 24))), (.di 145 (.ite (.v 49) (.v 82) (.v 25))), (.di 146 (.ite (.v 49) (.v 83) (.v 26))), (.db 120 (.ite (.v 49) (.v 59) (.v 102))), (.db 121 (.ite (.v 49) (.v 60) (.v 103))), (.di 147 (.ite (.v 49) (.v 71) (.v 123))), (.di 148 (.ite (.v 49) (.v 72) (.v 124))), (.di 149 (.ite (.v 49) (.v 73) (.v 125))), (.db 122 (.ite (.v 49) (.v 61) (.v 104))), (.di 150 (.ite (.v 49) (.v 74) (.v 126))), (.di 151 (.ite (.v 49) (.v 75) (.v 127))), (.di 152 (.ite (.v 49) (.v 76) (.v 128))), (.db 123 (.ite (.v 49) (.v 50) (.v 105))), (.db 124 (.ite (.v 49) (.v 51) (.v 106))), (.db 125 (.ite (.v 49) (.v 52) (.v 107))), (.db 126 (.ite (.v 49) (.v 53) (.v 108))), (.di 153 (.ite (.v 49) (.v 60) (.v 129))), (.di 154 (.ite (.v 49) (.v 61) (.v 130))), (.di 155 (.ite (.v 49) (.v 62) (.v 131))), (.db 127 (.ite (.v 49) (.v 54) (.v 109))), (.db 128 (.ite (.v 49) (.v 55) (.v 110))), (.di 156 (.ite (.v 49) (.v 63) (.v 132))), (.di 157 (.ite (.v 49) (.v 64) (.v 133))), (.di 158 (.ite (.v 49) (.v 65) (.v 134))), (.di 159 (.ite (.v 49) (.v 66) (.v 135))), (.di 160 (.ite (.v 49) (.v 67) (.v 136))), (.db 129 (.ite (.v 49) (.v 56) (.v 111))), (.db 130 (.ite (.v 49) (.v 57) (.v 112))), (.db 131 (.ite (.v 49) (.v 58) (.v 113))), (.di 161 (.ite (.v 49) (.v 68) (.v 137))), (.di 162 (.ite (.v 49) (.v 69) (.v 138))), (.di 163 (.ite (.v 49) (.v 70) (.v 139))), (.db 132 (.ite (.v 27) (.v 43) (.v 114))), (.db 133 (.ite (.v 27) (.v 44) (.v 115))), (.db 134 (.ite (.v 27) (.v 45) (.v 116))), (.di 164 (.ite (.v 27) (.v 53) (.v 140))), (.di 165 (.ite (.v 27) (.v 54) (.v 141))), (.di 166 (.ite (.v 27) (.v 55) (.v 142))), (.db 135 (.ite (.v 27) (.v 46) (.v 117))), (.db 136 (.ite (.v 27) (.v 47) (.v 118))), (.di 167 (.ite (.v 27) (.v 56) (.v 143))), (.db 137 (.ite (.v 27) (.v 48) (.v 119))), (.di 168 (.ite (.v 27) (.v 57) (.v 144))), (.di 169 (.ite (.v 27) (.v 58) (.v 145))), (.di 170 (.ite (.v 27) (.v 59) (.v 146))), (.db 138 (.ite (.v 27) (.v 39) (.v 120))), (.db 139 (.ite (.v 27) (.v 40) (.v 121))), (.di 171 (.ite (.v 27) (.v 47) (.v 147))), (.di 172 (.ite (.v 27) (.v 48) (.v 148))), (.di 173 (.ite (.v 27) (.v 49) (.v 149))), (.db 140 (.ite (.v 27) (.v 41) (.v 122))), (.di 174 (.ite (.v 27) (.v 50) (.v 150))), (.di 175 (.ite (.v 27) (.v 51) (.v 151))), (.di 176 (.ite (.v 27) (.v 52) (.v 152))), (.db 141 (.ite (.v 27) (.v 29) (.v 123))), (.db 142 (.ite (.v 27) (.v 30) (.v 124))), (.db 143 (.ite (.v 27) (.v 31) (.v 125))), (.db 144 (.ite (.v 27) (.v 32) (.v 126))), (.di 177 (.ite (.v 27) (.v 36) (.v 153))), (.di 178 (.ite (.v 27) (.v 37) (.v 154))), (.di 179 (.ite (.v 27) (.v 38) (.v 155))), (.db 145 (.ite (.v 27) (.v 33) (.v 127))), (.db 146 (.ite (.v 27) (.v 34) (.v 128))), (.di 180 (.ite (.v 27) (.v 39) (.v 156))), (.di 181 (.ite (.v 27) (.v 40) (.v 157))), (.di 182 (.ite (.v 27) (.v 41) (.v 158))), (.di 183 (.ite (.v 27) (.v 42) (.v 159))), (.di 184 (.ite (.v 27) (.v 43) (.v 160))), (.db 147 (.ite (.v 27) (.v 35) (.v 129))), (.db 148 (.ite (.v 27) (.v 36) (.v 130))), (.db 149 (.ite (.v 27) (.v 37) (.v 131))), (.di 185 (.ite (.v 27) (.v 44) (.v 161))), (.di 186 (.ite (.v 27) (.v 45) (.v 162))), (.di 187 (.ite (.v 27) (.v 46) (.v 163))), (.call 30 [(.v 177), (.v 178), (.v 179), (.v 180), (.v 181), (.v 182), (.v 183), (.v 184), (.v 185), (.v 186), (.v 187), (.v 171), (.v 172), (.v 173), (.v 174), (.v 175), (.v 176), (.v 164), (.v 165), (.v 166), (.v 167), (.v 168), (.v 169), (.v 170)] [(.v 141), (.v 142), (.v 143), (.v 144), (.v 145), (.v 146), (.v 147), (.v 148), (.v 149), (.v 138), (.v 139), (.v 140), (.v 132), (.v 133), (.v 134), (.v 135), (.v 136), (.v 137)] 188 1 150 0), (.db 150 (.cm .neq (.v 188) (.c 0))), (.call 36 [(.v 177), (.v 178), (.v 179), (.v 180), (.v 181), (.v 182), (.v 183), (.v 184), (.v 185), (.v 186), (.v 187)] [(.v 141), (.v 142), (.v 143), (.v 144), (.v 145), (.v 146), (.v 147), (.v 148), (.v 149)] 189 1 151 1), (.ob [((.v 20), true), ((.v 150), false)] (.v 151)), (.db 152 (.cm .gtr (.v 189) (.c 15))), (.db 153 (.or (.v 150) (.v 152))), (.call 58 [(.v 171), (.v 172), (.v 173), (.v 174), (.v 175), (.v 176)] [(.v 138), (.v 139), (.v 140)] 190 1 154 0), (.db 154 (.cm .gtr (.v 190) (.c 15))), (.db 155 (.or (.v 153) (.v 154))), (.call 50 [(.v 164), (.v 165), (.v 166), (.v 167), (.v 168), (.v 169), (.v 170)] [(.v 132), (.v 133), (.v 134), (.v 135), (.v 136), (.v 137)] 191 1 156 0), (.db 156 (.cm .gtr (.v 191) (.c 15))), (.db 157 (.or (.v 155) (.v 156))), (.di 192 (.ar .add .i64 (.v 2) (.c 1))), (.db 158 (.not (.v 157))), (.db 159 (.not (.v 157))), (.db 160 (.and (.v 20) (.v 159))), (.db 161 (.and (.v 20) (.v 157))), (.db 162 (.not (.v 20)))] [(.v 0), (.v 1), (.v 192), (.v 177), (.v 178), (.v 179), (.v 180), (.v 181), (.v 182), (.v 183), (.v 184), (.v 185), (.v 186), (.v 187), (.v 171), (.v 172), (.v 173), (.v 174), (.v 175), (.v 176), (.v 164), (.v 165), (.v 166), (.v 167), (.v 168), (.v 169), (.v 170)] [(.v 160), (.v 141), (.v 142), (.v 143), (.v 144), (.v 145), (.v 146), (.v 147), (.v 148), (.v 149), (.v 138), (.v 139), (.v 140), (.v 132), (.v 133), (.v 134), (.v 135), (.v 136), (.v 137), (.v 161), (.v 162)]) }
def l14 : List (Nat × LAnn) := [(6, L101400)]
theorem k14 : fnX Tryd.prog (tabS T26) gl (ctlL Tryd.f14 gl s14 l14) Tryd.f14 s14 = some S14 := by kernel_rfl
noncomputable def F14 : Fun := S14.run (lpF (l14.map (·.2)) (tabF T26)) true
theorem x14 : AllOk Tryd.prog (lpF (l14.map (·.2)) (tabF T26)) gl (tabS T26) := (AllOk.loops (l := l14.map (·.2)) A26 (by kernel_rfl))
theorem y14 : LoopsOk (lpF (l14.map (·.2)) (tabF T26)) (ctlL Tryd.f14 gl s14 l14) := (LoopsOk.of (fn := Tryd.f14) (gl := gl) (s := s14) (l := l14) (by kernel_rfl))
theorem z14 : (wsEm S14.em (argI s14.args) (argB s14.args) && shOk s14 && s14.pre) = true := by kernel_rfl
theorem d14 : Contract Tryd.prog gl 14 s14 (S14.run (lpF (l14.map (·.2)) (tabF T26)) s14.pre) := contract_pre x14 Tryd.func14 y14 k14 z14
theorem c14 : Contract Tryd.prog gl 14 s14 F14 := d14
theorem call14 : ∀ args w, (callFunc 14 args).run Tryd.prog w = .ok (.enter 14 args) w := callable_of Tryd.func14 (by kernel_rfl) (by kernel_rfl)
noncomputable def e14 : Nat × Sum × Fun := (14, s14, F14)
noncomputable def T27 : List (Nat × Sum × Fun) := e14 :: T26
theorem A27 : AllOk Tryd.prog (tabF T27) gl (tabS T27) := AllOk.cons (s := e14.2.1) c14 call14 (fun S h => by cases h) A26
end Go.Proofs.YtoempcgniokpiaaDoor.Tc
