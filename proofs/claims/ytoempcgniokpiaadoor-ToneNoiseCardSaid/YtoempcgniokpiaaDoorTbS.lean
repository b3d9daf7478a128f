/-
  The walks of tone's laws (noise): what each function answers, by the executor. WRITTEN BY PROGRAM (wip/dev/Drv.lean). No condition.
-/
import Derived.Test.YtoempcgniokpiaaDoorSxU
import Derived.Test.YtoempcgniokpiaaDoorProg
set_option linter.unusedVariables false
namespace Go.Proofs.YtoempcgniokpiaaDoor.Tb
open Go Go.Proofs.YtoempcgniokpiaaDoor.Sx

def longs : List Int := [10, 254, 20, 2, 40, 4, 80, 6, 160, 8, 60, 10, 14, 12, 26, 14, 12, 16, 24, 18, 48, 20, 96, 22, 192, 24, 72, 26, 16, 28, 32, 30]
def rates : List Int := [4, 8, 16, 32, 64, 96, 128, 160, 202, 254, 380, 508, 762, 1016, 2034, 4068]
def gl : Gl := [[], rates.map (Value.int .u16), longs.map (Value.int .u8)]
noncomputable def T0 : List (Nat × Sum × Fun) := []
theorem A0 : AllOk Tryd.prog (tabF T0) gl (tabS T0) := AllOk.nil
/-! seepage/tone.env -/
def s78 : Sum := { args := [(.val true [.bool, .bool, .bool, (.int .u8), (.int .u8), (.int .u8)])], tup := false, res := [(false, [.bool])], pre := false }
def S78 : Smry := (.mk [(.di 3 (.mx (.v 0) (.v 1))), (.di 4 (.mx (.v 3) (.v 2))), (.db 3 (.cm .lss (.v 4) (.c 16)))] [] [(.v 3)])
theorem k78 : fnX Tryd.prog (tabS T0) gl (ctlOf Tryd.f78 gl s78) Tryd.f78 s78 = some S78 := by kernel_rfl
noncomputable def F78 : Fun := S78.run (tabF T0) false
theorem x78 : AllOk Tryd.prog (tabF T0) gl (tabS T0) := A0
theorem y78 : LoopsOk (tabF T0) (ctlOf Tryd.f78 gl s78) := (LoopsOk.nil rfl)
theorem z78 : (wsEm S78.em (argI s78.args) (argB s78.args) && shOk s78 && noOb S78.em) = true := by kernel_rfl
theorem d78 : Contract Tryd.prog gl 78 s78 (S78.run (tabF T0) s78.pre) := contract_of x78 Tryd.func78 y78 k78 z78
theorem c78 : Contract Tryd.prog gl 78 s78 F78 := d78
theorem call78 : ∀ args w, (callFunc 78 args).run Tryd.prog w = .ok (.enter 78 args) w := callable_of Tryd.func78 (by kernel_rfl) (by kernel_rfl)
noncomputable def e78 : Nat × Sum × Fun := (78, withInl s78 S78, F78)
noncomputable def T1 : List (Nat × Sum × Fun) := e78 :: T0
theorem A1 : AllOk Tryd.prog (tabF T1) gl (tabS T1) := AllOk.cons (s := e78.2.1) c78 call78 (fun S h => by cases h; exact ⟨rfl, fun _ _ => rfl⟩) A0
/-! seepage/tone.noise -/
def s70 : Sum := { args := [(.val true [.bool, .bool, .bool, (.int .u8), (.int .u8), (.int .u8), .bool, .bool, (.int .u8), .bool, (.int .u8), (.int .u16), (.int .u16)])], tup := false, res := [(false, [.bool])], pre := false }
def S70 : Smry := (.mk [(.di 7 (.mx (.v 0) (.v 1))), (.di 8 (.mx (.v 7) (.v 2))), (.db 6 (.cm .lss (.v 8) (.c 16))), (.db 7 (.cm .lss (.v 4) (.c 16))), (.db 8 (.and (.v 6) (.v 7))), (.db 9 (.cm .lss (.v 5) (.c 4096))), (.db 10 (.and (.v 8) (.v 9))), (.db 11 (.cm .gtr (.v 6) (.c 0))), (.db 12 (.and (.v 10) (.v 11))), (.db 13 (.cm .lss (.v 6) (.c 32768))), (.db 14 (.and (.v 12) (.v 13)))] [] [(.v 14)])
theorem k70 : fnX Tryd.prog (tabS T1) gl (ctlOf Tryd.f70 gl s70) Tryd.f70 s70 = some S70 := by kernel_rfl
noncomputable def F70 : Fun := S70.run (tabF T1) false
theorem x70 : AllOk Tryd.prog (tabF T1) gl (tabS T1) := A1
theorem y70 : LoopsOk (tabF T1) (ctlOf Tryd.f70 gl s70) := (LoopsOk.nil rfl)
theorem z70 : (wsEm S70.em (argI s70.args) (argB s70.args) && shOk s70 && noOb S70.em) = true := by kernel_rfl
theorem d70 : Contract Tryd.prog gl 70 s70 (S70.run (tabF T1) s70.pre) := contract_of x70 Tryd.func70 y70 k70 z70
theorem c70 : Contract Tryd.prog gl 70 s70 F70 := d70
theorem call70 : ∀ args w, (callFunc 70 args).run Tryd.prog w = .ok (.enter 70 args) w := callable_of Tryd.func70 (by kernel_rfl) (by kernel_rfl)
noncomputable def e70 : Nat × Sum × Fun := (70, s70, F70)
noncomputable def T2 : List (Nat × Sum × Fun) := e70 :: T1
theorem A2 : AllOk Tryd.prog (tabF T2) gl (tabS T2) := AllOk.cons (s := e70.2.1) c70 call70 (fun S h => by cases h) A1
/-! seepage/tone.written -/
def s71 : Sum := { args := [(.ptr [.bool, .bool, .bool, (.int .u8), (.int .u8), (.int .u8)]), (.ptr [.bool, .bool, (.int .u8)]), (.val false [(.int .u8)])], tup := true, res := [], pre := false }
def S71 : Smry := (.mk [(.di 5 (.ar .and .u8 (.v 4) (.c 32))), (.db 5 (.cm .gtr (.v 5) (.c 0))), (.di 6 (.ar .and .u8 (.v 4) (.c 16))), (.db 6 (.cm .gtr (.v 6) (.c 0))), (.di 7 (.ar .and .u8 (.v 4) (.c 15)))] [(.v 7), (.v 1), (.v 2), (.v 3)] [(.v 5), (.v 6), (.v 2), (.v 5), (.v 4)])
theorem k71 : fnX Tryd.prog (tabS T2) gl (ctlOf Tryd.f71 gl s71) Tryd.f71 s71 = some S71 := by kernel_rfl
noncomputable def F71 : Fun := S71.run (tabF T2) false
theorem x71 : AllOk Tryd.prog (tabF T2) gl (tabS T2) := A2
theorem y71 : LoopsOk (tabF T2) (ctlOf Tryd.f71 gl s71) := (LoopsOk.nil rfl)
theorem z71 : (wsEm S71.em (argI s71.args) (argB s71.args) && shOk s71 && noOb S71.em) = true := by kernel_rfl
theorem d71 : Contract Tryd.prog gl 71 s71 (S71.run (tabF T2) s71.pre) := contract_of x71 Tryd.func71 y71 k71 z71
theorem c71 : Contract Tryd.prog gl 71 s71 F71 := d71
theorem call71 : ∀ args w, (callFunc 71 args).run Tryd.prog w = .ok (.enter 71 args) w := callable_of Tryd.func71 (by kernel_rfl) (by kernel_rfl)
noncomputable def e71 : Nat × Sum × Fun := (71, withInl s71 S71, F71)
noncomputable def T3 : List (Nat × Sum × Fun) := e71 :: T2
theorem A3 : AllOk Tryd.prog (tabF T3) gl (tabS T3) := AllOk.cons (s := e71.2.1) c71 call71 (fun S h => by cases h; exact ⟨rfl, fun _ _ => rfl⟩) A2
/-! seepage/tone.load -/
def s73 : Sum := { args := [(.ptr [.bool, .bool, (.int .u8)]), (.val false [(.int .u8)])], tup := true, res := [], pre := true }
def S73 : Smry := (.mk [(.di 2 (.ar .shr .u8 (.v 1) (.c 3))), (.db 2 (.cm .geq (.v 2) (.c 0))), (.ob [((.v 1), true)] (.v 2)), (.db 3 (.cm .lss (.v 2) (.c 32))), (.ob [((.v 1), true)] (.v 3)), (.di 3 (.tab [10, 254, 20, 2, 40, 4, 80, 6, 160, 8, 60, 10, 14, 12, 26, 14, 12, 16, 24, 18, 48, 20, 96, 22, 192, 24, 72, 26, 16, 28, 32, 30] (.v 2))), (.di 4 (.ite (.v 1) (.v 3) (.v 0)))] [(.v 4)] [(.v 0), (.v 1)])
theorem k73 : fnX Tryd.prog (tabS T3) gl (ctlOf Tryd.f73 gl s73) Tryd.f73 s73 = some S73 := by kernel_rfl
noncomputable def F73 : Fun := S73.run (tabF T3) true
theorem x73 : AllOk Tryd.prog (tabF T3) gl (tabS T3) := A3
theorem y73 : LoopsOk (tabF T3) (ctlOf Tryd.f73 gl s73) := (LoopsOk.nil rfl)
theorem z73 : (wsEm S73.em (argI s73.args) (argB s73.args) && shOk s73 && s73.pre) = true := by kernel_rfl
theorem d73 : Contract Tryd.prog gl 73 s73 (S73.run (tabF T3) s73.pre) := contract_pre x73 Tryd.func73 y73 k73 z73
theorem c73 : Contract Tryd.prog gl 73 s73 F73 := d73
theorem call73 : ∀ args w, (callFunc 73 args).run Tryd.prog w = .ok (.enter 73 args) w := callable_of Tryd.func73 (by kernel_rfl) (by kernel_rfl)
noncomputable def e73 : Nat × Sum × Fun := (73, s73, F73)
noncomputable def T4 : List (Nat × Sum × Fun) := e73 :: T3
theorem A4 : AllOk Tryd.prog (tabF T4) gl (tabS T4) := AllOk.cons (s := e73.2.1) c73 call73 (fun S h => by cases h) A3
/-! seepage/tone.NoiseWrite -/
def s46 : Sum := { args := [(.val true [.bool, .bool, .bool, (.int .u8), (.int .u8), (.int .u8), .bool, .bool, (.int .u8), .bool, (.int .u8), (.int .u16), (.int .u16)]), (.val false [(.int .i64)]), (.val false [(.int .u8)])], tup := false, res := [(true, [.bool, .bool, .bool, (.int .u8), (.int .u8), (.int .u8), .bool, .bool, (.int .u8), .bool, (.int .u8), (.int .u16), (.int .u16)])], pre := true }
def S46 : Smry := (.mk [(.call 70 [(.v 0), (.v 1), (.v 2), (.v 3), (.v 4), (.v 5), (.v 6)] [(.v 0), (.v 1), (.v 2), (.v 3), (.v 4), (.v 5)] 9 0 6 1), (.db 7 (.not (.v 6))), (.db 8 (.cm .eql (.v 7) (.c 0))), (.di 9 (.ar .and .u8 (.v 8) (.c 32))), (.db 9 (.cm .gtr (.v 9) (.c 0))), (.di 10 (.ar .and .u8 (.v 8) (.c 16))), (.db 10 (.cm .gtr (.v 10) (.c 0))), (.di 11 (.ar .and .u8 (.v 8) (.c 15))), (.db 11 (.cm .eql (.v 7) (.c 2))), (.di 12 (.ar .and .u8 (.v 8) (.c 128))), (.db 12 (.cm .gtr (.v 12) (.c 0))), (.di 13 (.ar .and .u8 (.v 8) (.c 15))), (.db 13 (.cm .eql (.v 7) (.c 3))), (.call 73 [(.v 3), (.v 8)] [(.v 3), (.v 4)] 14 1 14 3), (.ob [((.v 7), false), ((.v 8), false), ((.v 11), false), ((.v 13), true)] (.v 14)), (.db 17 (.or (.v 13) (.v 2))), (.db 18 (.ite (.v 13) (.v 15) (.v 3))), (.db 19 (.ite (.v 13) (.v 16) (.v 4))), (.di 15 (.ite (.v 13) (.v 14) (.v 3))), (.db 20 (.ite (.v 11) (.v 2) (.v 17))), (.db 21 (.ite (.v 11) (.v 3) (.v 18))), (.db 22 (.ite (.v 11) (.v 4) (.v 19))), (.di 16 (.ite (.v 11) (.v 3) (.v 15))), (.db 23 (.ite (.v 11) (.v 12) (.v 5))), (.di 17 (.ite (.v 11) (.v 13) (.v 4))), (.db 24 (.ite (.v 8) (.v 9) (.v 0))), (.db 25 (.ite (.v 8) (.v 10) (.v 1))), (.db 26 (.ite (.v 8) (.v 2) (.v 20))), (.di 18 (.ite (.v 8) (.v 11) (.v 0))), (.db 27 (.ite (.v 8) (.v 9) (.v 21))), (.db 28 (.ite (.v 8) (.v 4) (.v 22))), (.di 19 (.ite (.v 8) (.v 3) (.v 16))), (.db 29 (.ite (.v 8) (.v 5) (.v 23))), (.di 20 (.ite (.v 8) (.v 4) (.v 17))), (.db 30 (.not (.v 7))), (.db 31 (.ite (.v 30) (.v 24) (.v 0))), (.db 32 (.ite (.v 30) (.v 25) (.v 1))), (.db 33 (.ite (.v 30) (.v 26) (.v 2))), (.di 21 (.ite (.v 30) (.v 18) (.v 0))), (.db 34 (.ite (.v 30) (.v 27) (.v 3))), (.db 35 (.ite (.v 30) (.v 28) (.v 4))), (.di 22 (.ite (.v 30) (.v 19) (.v 3))), (.db 36 (.ite (.v 30) (.v 29) (.v 5))), (.di 23 (.ite (.v 30) (.v 20) (.v 4)))] [(.v 21), (.v 1), (.v 2), (.v 22), (.v 23), (.v 5), (.v 6)] [(.v 31), (.v 32), (.v 33), (.v 34), (.v 35), (.v 36)])
theorem k46 : fnX Tryd.prog (tabS T4) gl (ctlOf Tryd.f46 gl s46) Tryd.f46 s46 = some S46 := by kernel_rfl
noncomputable def F46 : Fun := S46.run (tabF T4) true
theorem x46 : AllOk Tryd.prog (tabF T4) gl (tabS T4) := A4
theorem y46 : LoopsOk (tabF T4) (ctlOf Tryd.f46 gl s46) := (LoopsOk.nil rfl)
theorem z46 : (wsEm S46.em (argI s46.args) (argB s46.args) && shOk s46 && s46.pre) = true := by kernel_rfl
theorem d46 : Contract Tryd.prog gl 46 s46 (S46.run (tabF T4) s46.pre) := contract_pre x46 Tryd.func46 y46 k46 z46
theorem c46 : Contract Tryd.prog gl 46 s46 F46 := d46
theorem call46 : ∀ args w, (callFunc 46 args).run Tryd.prog w = .ok (.enter 46 args) w := callable_of Tryd.func46 (by kernel_rfl) (by kernel_rfl)
noncomputable def e46 : Nat × Sum × Fun := (46, s46, F46)
noncomputable def T5 : List (Nat × Sum × Fun) := e46 :: T4
theorem A5 : AllOk Tryd.prog (tabF T5) gl (tabS T5) := AllOk.cons (s := e46.2.1) c46 call46 (fun S h => by cases h) A4
/-! seepage/seepageref18.env -/
def s77 : Sum := { args := [(.val true [.bool, .bool, .bool, (.int .u8), (.int .u8), (.int .u8)])], tup := false, res := [(false, [.bool])], pre := false }
def S77 : Smry := (.mk [(.db 3 (.cm .lss (.v 0) (.c 16))), (.db 4 (.cm .lss (.v 1) (.c 16))), (.db 5 (.and (.v 3) (.v 4))), (.db 6 (.cm .lss (.v 2) (.c 16))), (.db 7 (.and (.v 5) (.v 6)))] [] [(.v 7)])
theorem k77 : fnX Tryd.prog (tabS T5) gl (ctlOf Tryd.f77 gl s77) Tryd.f77 s77 = some S77 := by kernel_rfl
noncomputable def F77 : Fun := S77.run (tabF T5) false
theorem x77 : AllOk Tryd.prog (tabF T5) gl (tabS T5) := A5
theorem y77 : LoopsOk (tabF T5) (ctlOf Tryd.f77 gl s77) := (LoopsOk.nil rfl)
theorem z77 : (wsEm S77.em (argI s77.args) (argB s77.args) && shOk s77 && noOb S77.em) = true := by kernel_rfl
theorem d77 : Contract Tryd.prog gl 77 s77 (S77.run (tabF T5) s77.pre) := contract_of x77 Tryd.func77 y77 k77 z77
theorem c77 : Contract Tryd.prog gl 77 s77 F77 := d77
theorem call77 : ∀ args w, (callFunc 77 args).run Tryd.prog w = .ok (.enter 77 args) w := callable_of Tryd.func77 (by kernel_rfl) (by kernel_rfl)
noncomputable def e77 : Nat × Sum × Fun := (77, withInl s77 S77, F77)
noncomputable def T6 : List (Nat × Sum × Fun) := e77 :: T5
theorem A6 : AllOk Tryd.prog (tabF T6) gl (tabS T6) := AllOk.cons (s := e77.2.1) c77 call77 (fun S h => by cases h; exact ⟨rfl, fun _ _ => rfl⟩) A5
/-! seepage/seepageref18.Noise -/
def s39 : Sum := { args := [(.val true [.bool, .bool, .bool, (.int .u8), (.int .u8), (.int .u8), .bool, .bool, (.int .u8), .bool, (.int .u8), (.int .u16), (.int .u16)])], tup := false, res := [(false, [.bool])], pre := false }
def S39 : Smry := (.mk [(.db 6 (.cm .lss (.v 0) (.c 16))), (.db 7 (.cm .lss (.v 1) (.c 16))), (.db 8 (.and (.v 6) (.v 7))), (.db 9 (.cm .lss (.v 2) (.c 16))), (.db 10 (.and (.v 8) (.v 9))), (.db 11 (.cm .lss (.v 4) (.c 16))), (.db 12 (.and (.v 10) (.v 11))), (.db 13 (.cm .lss (.v 5) (.c 4096))), (.db 14 (.and (.v 12) (.v 13))), (.db 15 (.cm .geq (.v 6) (.c 1))), (.db 16 (.and (.v 14) (.v 15))), (.db 17 (.cm .leq (.v 6) (.c 32767))), (.db 18 (.and (.v 16) (.v 17)))] [] [(.v 18)])
theorem k39 : fnX Tryd.prog (tabS T6) gl (ctlOf Tryd.f39 gl s39) Tryd.f39 s39 = some S39 := by kernel_rfl
noncomputable def F39 : Fun := S39.run (tabF T6) false
theorem x39 : AllOk Tryd.prog (tabF T6) gl (tabS T6) := A6
theorem y39 : LoopsOk (tabF T6) (ctlOf Tryd.f39 gl s39) := (LoopsOk.nil rfl)
theorem z39 : (wsEm S39.em (argI s39.args) (argB s39.args) && shOk s39 && noOb S39.em) = true := by kernel_rfl
theorem d39 : Contract Tryd.prog gl 39 s39 (S39.run (tabF T6) s39.pre) := contract_of x39 Tryd.func39 y39 k39 z39
theorem c39 : Contract Tryd.prog gl 39 s39 F39 := d39
theorem call39 : ∀ args w, (callFunc 39 args).run Tryd.prog w = .ok (.enter 39 args) w := callable_of Tryd.func39 (by kernel_rfl) (by kernel_rfl)
noncomputable def e39 : Nat × Sum × Fun := (39, s39, F39)
noncomputable def T7 : List (Nat × Sum × Fun) := e39 :: T6
theorem A7 : AllOk Tryd.prog (tabF T7) gl (tabS T7) := AllOk.cons (s := e39.2.1) c39 call39 (fun S h => by cases h) A6
/-! seepage/seepageref18.first -/
def s79 : Sum := { args := [(.val true [.bool, .bool, .bool, (.int .u8), (.int .u8), (.int .u8)]), (.val false [(.int .u8)])], tup := false, res := [(true, [.bool, .bool, .bool, (.int .u8), (.int .u8), (.int .u8)])], pre := false }
def S79 : Smry := (.mk [(.di 4 (.ar .quo .u8 (.v 3) (.c 32))), (.di 5 (.ar .rem .u8 (.v 4) (.c 2))), (.db 3 (.cm .eql (.v 5) (.c 1))), (.di 6 (.ar .quo .u8 (.v 3) (.c 16))), (.di 7 (.ar .rem .u8 (.v 6) (.c 2))), (.db 4 (.cm .eql (.v 7) (.c 1))), (.di 8 (.ar .rem .u8 (.v 3) (.c 16)))] [(.v 8), (.v 1), (.v 2)] [(.v 3), (.v 4), (.v 2)])
theorem k79 : fnX Tryd.prog (tabS T7) gl (ctlOf Tryd.f79 gl s79) Tryd.f79 s79 = some S79 := by kernel_rfl
noncomputable def F79 : Fun := S79.run (tabF T7) false
theorem x79 : AllOk Tryd.prog (tabF T7) gl (tabS T7) := A7
theorem y79 : LoopsOk (tabF T7) (ctlOf Tryd.f79 gl s79) := (LoopsOk.nil rfl)
theorem z79 : (wsEm S79.em (argI s79.args) (argB s79.args) && shOk s79 && noOb S79.em) = true := by kernel_rfl
theorem d79 : Contract Tryd.prog gl 79 s79 (S79.run (tabF T7) s79.pre) := contract_of x79 Tryd.func79 y79 k79 z79
theorem c79 : Contract Tryd.prog gl 79 s79 F79 := d79
theorem call79 : ∀ args w, (callFunc 79 args).run Tryd.prog w = .ok (.enter 79 args) w := callable_of Tryd.func79 (by kernel_rfl) (by kernel_rfl)
noncomputable def e79 : Nat × Sum × Fun := (79, withInl s79 S79, F79)
noncomputable def T8 : List (Nat × Sum × Fun) := e79 :: T7
theorem A8 : AllOk Tryd.prog (tabF T8) gl (tabS T8) := AllOk.cons (s := e79.2.1) c79 call79 (fun S h => by cases h; exact ⟨rfl, fun _ _ => rfl⟩) A7
/-! seepage/seepageref18.Lengths -/
def s34 : Sum := tabSum (.i64, longs)
theorem k34 : tabX Tryd.prog (tabS T8) gl (ctlOf Tryd.f34 gl s34) Tryd.f34 (.i64, longs) = true := by kernel_rfl
theorem c34 : TabContract Tryd.prog gl 34 (.i64, longs) := contract_tab A8 Tryd.func34 (LoopsOk.nil rfl) k34
theorem call34 : ∀ args w, (callFunc 34 args).run Tryd.prog w = .ok (.enter 34 args) w := callable_of Tryd.func34 (by kernel_rfl) (by kernel_rfl)
def e34 : Nat × Sum × Fun := (34, s34, fun _ _ => ([], []))
noncomputable def T9 : List (Nat × Sum × Fun) := e34 :: T8
theorem A9 : AllOk Tryd.prog (tabF T9) gl (tabS T9) := AllOk.cons (s := e34.2.1) c34 call34 (fun S h => by cases h) A8
/-! seepage/seepageref18.loaded -/
def s80 : Sum := { args := [(.val true [.bool, .bool, (.int .u8)]), (.val false [(.int .u8)])], tup := false, res := [(true, [.bool, .bool, (.int .u8)])], pre := true }
def S80 : Smry := (.mk [(.di 2 (.ar .quo .u8 (.v 1) (.c 8))), (.db 2 (.cm .geq (.v 2) (.c 0))), (.ob [((.v 1), true)] (.v 2)), (.db 3 (.cm .lss (.v 2) (.c 32))), (.ob [((.v 1), true)] (.v 3)), (.di 3 (.tab [10, 254, 20, 2, 40, 4, 80, 6, 160, 8, 60, 10, 14, 12, 26, 14, 12, 16, 24, 18, 48, 20, 96, 22, 192, 24, 72, 26, 16, 28, 32, 30] (.v 2))), (.di 4 (.cv .u8 (.v 3))), (.di 5 (.ite (.v 1) (.v 4) (.v 0)))] [(.v 5)] [(.v 0), (.v 1)])
theorem k80 : fnX Tryd.prog (tabS T9) gl (ctlOf Tryd.f80 gl s80) Tryd.f80 s80 = some S80 := by kernel_rfl
noncomputable def F80 : Fun := S80.run (tabF T9) true
theorem x80 : AllOk Tryd.prog (tabF T9) gl (tabS T9) := A9
theorem y80 : LoopsOk (tabF T9) (ctlOf Tryd.f80 gl s80) := (LoopsOk.nil rfl)
theorem z80 : (wsEm S80.em (argI s80.args) (argB s80.args) && shOk s80 && s80.pre) = true := by kernel_rfl
theorem d80 : Contract Tryd.prog gl 80 s80 (S80.run (tabF T9) s80.pre) := contract_pre x80 Tryd.func80 y80 k80 z80
theorem c80 : Contract Tryd.prog gl 80 s80 F80 := d80
theorem call80 : ∀ args w, (callFunc 80 args).run Tryd.prog w = .ok (.enter 80 args) w := callable_of Tryd.func80 (by kernel_rfl) (by kernel_rfl)
noncomputable def e80 : Nat × Sum × Fun := (80, s80, F80)
noncomputable def T10 : List (Nat × Sum × Fun) := e80 :: T9
theorem A10 : AllOk Tryd.prog (tabF T10) gl (tabS T10) := AllOk.cons (s := e80.2.1) c80 call80 (fun S h => by cases h) A9
/-! seepage/seepageref18.NoiseWrite -/
def s47 : Sum := { args := [(.val true [.bool, .bool, .bool, (.int .u8), (.int .u8), (.int .u8), .bool, .bool, (.int .u8), .bool, (.int .u8), (.int .u16), (.int .u16)]), (.val false [(.int .i64)]), (.val false [(.int .u8)])], tup := false, res := [(true, [.bool, .bool, .bool, (.int .u8), (.int .u8), (.int .u8), .bool, .bool, (.int .u8), .bool, (.int .u8), (.int .u16), (.int .u16)])], pre := true }
def S47 : Smry := (.mk [(.call 39 [(.v 0), (.v 1), (.v 2), (.v 3), (.v 4), (.v 5), (.v 6)] [(.v 0), (.v 1), (.v 2), (.v 3), (.v 4), (.v 5)] 9 0 6 1), (.db 7 (.not (.v 6))), (.db 8 (.cm .eql (.v 7) (.c 0))), (.di 9 (.ar .quo .u8 (.v 8) (.c 32))), (.di 10 (.ar .rem .u8 (.v 9) (.c 2))), (.db 9 (.cm .eql (.v 10) (.c 1))), (.di 11 (.ar .quo .u8 (.v 8) (.c 16))), (.di 12 (.ar .rem .u8 (.v 11) (.c 2))), (.db 10 (.cm .eql (.v 12) (.c 1))), (.di 13 (.ar .rem .u8 (.v 8) (.c 16))), (.di 14 (.ar .quo .u8 (.v 8) (.c 32))), (.di 15 (.ar .rem .u8 (.v 14) (.c 2))), (.db 11 (.cm .eql (.v 15) (.c 1))), (.db 12 (.cm .eql (.v 7) (.c 2))), (.db 13 (.cm .geq (.v 8) (.c 128))), (.di 16 (.ar .rem .u8 (.v 8) (.c 16))), (.db 14 (.cm .eql (.v 7) (.c 3))), (.call 80 [(.v 3), (.v 8)] [(.v 3), (.v 4)] 17 1 15 3), (.ob [((.v 7), false), ((.v 8), false), ((.v 12), false), ((.v 14), true)] (.v 15)), (.db 18 (.or (.v 14) (.v 2))), (.db 19 (.ite (.v 14) (.v 16) (.v 3))), (.db 20 (.ite (.v 14) (.v 17) (.v 4))), (.di 18 (.ite (.v 14) (.v 17) (.v 3))), (.db 21 (.ite (.v 12) (.v 2) (.v 18))), (.db 22 (.ite (.v 12) (.v 3) (.v 19))), (.db 23 (.ite (.v 12) (.v 4) (.v 20))), (.di 19 (.ite (.v 12) (.v 3) (.v 18))), (.db 24 (.ite (.v 12) (.v 13) (.v 5))), (.di 20 (.ite (.v 12) (.v 16) (.v 4))), (.db 25 (.ite (.v 8) (.v 9) (.v 0))), (.db 26 (.ite (.v 8) (.v 10) (.v 1))), (.db 27 (.ite (.v 8) (.v 2) (.v 21))), (.di 21 (.ite (.v 8) (.v 13) (.v 0))), (.db 28 (.ite (.v 8) (.v 11) (.v 22))), (.db 29 (.ite (.v 8) (.v 4) (.v 23))), (.di 22 (.ite (.v 8) (.v 3) (.v 19))), (.db 30 (.ite (.v 8) (.v 5) (.v 24))), (.di 23 (.ite (.v 8) (.v 4) (.v 20))), (.db 31 (.not (.v 7))), (.db 32 (.ite (.v 31) (.v 25) (.v 0))), (.db 33 (.ite (.v 31) (.v 26) (.v 1))), (.db 34 (.ite (.v 31) (.v 27) (.v 2))), (.di 24 (.ite (.v 31) (.v 21) (.v 0))), (.db 35 (.ite (.v 31) (.v 28) (.v 3))), (.db 36 (.ite (.v 31) (.v 29) (.v 4))), (.di 25 (.ite (.v 31) (.v 22) (.v 3))), (.db 37 (.ite (.v 31) (.v 30) (.v 5))), (.di 26 (.ite (.v 31) (.v 23) (.v 4)))] [(.v 24), (.v 1), (.v 2), (.v 25), (.v 26), (.v 5), (.v 6)] [(.v 32), (.v 33), (.v 34), (.v 35), (.v 36), (.v 37)])
theorem k47 : fnX Tryd.prog (tabS T10) gl (ctlOf Tryd.f47 gl s47) Tryd.f47 s47 = some S47 := by kernel_rfl
noncomputable def F47 : Fun := S47.run (tabF T10) true
theorem x47 : AllOk Tryd.prog (tabF T10) gl (tabS T10) := A10
theorem y47 : LoopsOk (tabF T10) (ctlOf Tryd.f47 gl s47) := (LoopsOk.nil rfl)
theorem z47 : (wsEm S47.em (argI s47.args) (argB s47.args) && shOk s47 && s47.pre) = true := by kernel_rfl
theorem d47 : Contract Tryd.prog gl 47 s47 (S47.run (tabF T10) s47.pre) := contract_pre x47 Tryd.func47 y47 k47 z47
theorem c47 : Contract Tryd.prog gl 47 s47 F47 := d47
theorem call47 : ∀ args w, (callFunc 47 args).run Tryd.prog w = .ok (.enter 47 args) w := callable_of Tryd.func47 (by kernel_rfl) (by kernel_rfl)
noncomputable def e47 : Nat × Sum × Fun := (47, s47, F47)
noncomputable def T11 : List (Nat × Sum × Fun) := e47 :: T10
theorem A11 : AllOk Tryd.prog (tabF T11) gl (tabS T11) := AllOk.cons (s := e47.2.1) c47 call47 (fun S h => by cases h) A10
/-! seepage/tone.NoiseTick -/
def s48 : Sum := { args := [(.val true [.bool, .bool, .bool, (.int .u8), (.int .u8), (.int .u8), .bool, .bool, (.int .u8), .bool, (.int .u8), (.int .u16), (.int .u16)])], tup := false, res := [(true, [.bool, .bool, .bool, (.int .u8), (.int .u8), (.int .u8), .bool, .bool, (.int .u8), .bool, (.int .u8), (.int .u16), (.int .u16)])], pre := true }
def S48 : Smry := (.mk [(.call 70 [(.v 0), (.v 1), (.v 2), (.v 3), (.v 4), (.v 5), (.v 6)] [(.v 0), (.v 1), (.v 2), (.v 3), (.v 4), (.v 5)] 7 0 6 1), (.db 7 (.not (.v 6))), (.db 8 (.cm .gtr (.v 5) (.c 0))), (.di 7 (.ar .sub .u16 (.v 5) (.c 1))), (.db 9 (.or (.v 7) (.v 8))), (.di 8 (.ite (.v 7) (.v 5) (.v 7))), (.db 10 (.cm .geq (.v 4) (.c 0))), (.ob [((.v 7), false), ((.v 8), false)] (.v 10)), (.db 11 (.cm .lss (.v 4) (.c 16))), (.ob [((.v 7), false), ((.v 8), false)] (.v 11)), (.di 9 (.tab [4, 8, 16, 32, 64, 96, 128, 160, 202, 254, 380, 508, 762, 1016, 2034, 4068] (.v 4))), (.di 10 (.ar .sub .u16 (.v 9) (.c 1))), (.di 11 (.ite (.v 5) (.c 6) (.c 1))), (.di 12 (.ar .shr .u16 (.v 6) (.c 1))), (.db 12 (.cm .geq (.v 11) (.c 0))), (.ob [((.v 7), false), ((.v 8), false)] (.v 12)), (.di 13 (.ar .shr .u16 (.v 6) (.v 11))), (.di 14 (.ar .xor .u16 (.v 6) (.v 13))), (.di 15 (.ar .and .u16 (.v 14) (.c 1))), (.di 16 (.ar .shl .u16 (.v 15) (.c 14))), (.di 17 (.ar .or .u16 (.v 12) (.v 16))), (.db 13 (.not (.v 7))), (.db 14 (.not (.v 8))), (.db 15 (.and (.v 13) (.v 14))), (.di 18 (.ite (.v 15) (.v 10) (.v 8))), (.di 19 (.ite (.v 15) (.v 17) (.v 6)))] [(.v 0), (.v 1), (.v 2), (.v 3), (.v 4), (.v 18), (.v 19)] [(.v 0), (.v 1), (.v 2), (.v 3), (.v 4), (.v 5)])
theorem k48 : fnX Tryd.prog (tabS T11) gl (ctlOf Tryd.f48 gl s48) Tryd.f48 s48 = some S48 := by kernel_rfl
noncomputable def F48 : Fun := S48.run (tabF T11) true
theorem x48 : AllOk Tryd.prog (tabF T11) gl (tabS T11) := A11
theorem y48 : LoopsOk (tabF T11) (ctlOf Tryd.f48 gl s48) := (LoopsOk.nil rfl)
theorem z48 : (wsEm S48.em (argI s48.args) (argB s48.args) && shOk s48 && s48.pre) = true := by kernel_rfl
theorem d48 : Contract Tryd.prog gl 48 s48 (S48.run (tabF T11) s48.pre) := contract_pre x48 Tryd.func48 y48 k48 z48
theorem c48 : Contract Tryd.prog gl 48 s48 F48 := d48
theorem call48 : ∀ args w, (callFunc 48 args).run Tryd.prog w = .ok (.enter 48 args) w := callable_of Tryd.func48 (by kernel_rfl) (by kernel_rfl)
noncomputable def e48 : Nat × Sum × Fun := (48, s48, F48)
noncomputable def T12 : List (Nat × Sum × Fun) := e48 :: T11
theorem A12 : AllOk Tryd.prog (tabF T12) gl (tabS T12) := AllOk.cons (s := e48.2.1) c48 call48 (fun S h => by cases h) A11
/-! seepage/seepageref18.Rates -/
def s81 : Sum := tabSum (.i64, rates)
theorem k81 : tabX Tryd.prog (tabS T12) gl (ctlOf Tryd.f81 gl s81) Tryd.f81 (.i64, rates) = true := by kernel_rfl
theorem c81 : TabContract Tryd.prog gl 81 (.i64, rates) := contract_tab A12 Tryd.func81 (LoopsOk.nil rfl) k81
theorem call81 : ∀ args w, (callFunc 81 args).run Tryd.prog w = .ok (.enter 81 args) w := callable_of Tryd.func81 (by kernel_rfl) (by kernel_rfl)
def e81 : Nat × Sum × Fun := (81, s81, fun _ _ => ([], []))
noncomputable def T13 : List (Nat × Sum × Fun) := e81 :: T12
theorem A13 : AllOk Tryd.prog (tabF T13) gl (tabS T13) := AllOk.cons (s := e81.2.1) c81 call81 (fun S h => by cases h) A12
/-! seepage/seepageref18.NoiseTick -/
def s49 : Sum := { args := [(.val true [.bool, .bool, .bool, (.int .u8), (.int .u8), (.int .u8), .bool, .bool, (.int .u8), .bool, (.int .u8), (.int .u16), (.int .u16)])], tup := false, res := [(true, [.bool, .bool, .bool, (.int .u8), (.int .u8), (.int .u8), .bool, .bool, (.int .u8), .bool, (.int .u8), (.int .u16), (.int .u16)])], pre := true }
def S49 : Smry := (.mk [(.call 39 [(.v 0), (.v 1), (.v 2), (.v 3), (.v 4), (.v 5), (.v 6)] [(.v 0), (.v 1), (.v 2), (.v 3), (.v 4), (.v 5)] 7 0 6 1), (.db 7 (.not (.v 6))), (.db 8 (.cm .neq (.v 5) (.c 0))), (.di 7 (.ar .sub .u16 (.v 5) (.c 1))), (.db 9 (.cm .geq (.v 4) (.c 0))), (.ob [((.v 7), false), ((.v 8), false)] (.v 9)), (.db 10 (.cm .lss (.v 4) (.c 16))), (.ob [((.v 7), false), ((.v 8), false)] (.v 10)), (.di 8 (.tab [4, 8, 16, 32, 64, 96, 128, 160, 202, 254, 380, 508, 762, 1016, 2034, 4068] (.v 4))), (.di 9 (.ar .sub .i64 (.v 8) (.c 1))), (.di 10 (.cv .u16 (.v 9))), (.di 11 (.ar .quo .u16 (.v 6) (.c 2))), (.di 12 (.ar .rem .u16 (.v 11) (.c 2))), (.di 13 (.ar .quo .u16 (.v 6) (.c 64))), (.di 14 (.ar .rem .u16 (.v 13) (.c 2))), (.di 15 (.ite (.v 5) (.v 14) (.v 12))), (.di 16 (.ar .rem .u16 (.v 6) (.c 2))), (.db 11 (.cm .neq (.v 16) (.v 15))), (.di 17 (.ite (.v 11) (.c 16384) (.c 0))), (.di 18 (.ar .quo .u16 (.v 6) (.c 2))), (.di 19 (.ar .add .u16 (.v 18) (.v 17))), (.db 12 (.not (.v 8))), (.di 20 (.ite (.v 12) (.v 10) (.v 7))), (.di 21 (.ite (.v 12) (.v 19) (.v 6))), (.db 13 (.not (.v 7))), (.di 22 (.ite (.v 13) (.v 20) (.v 5))), (.di 23 (.ite (.v 13) (.v 21) (.v 6)))] [(.v 0), (.v 1), (.v 2), (.v 3), (.v 4), (.v 22), (.v 23)] [(.v 0), (.v 1), (.v 2), (.v 3), (.v 4), (.v 5)])
theorem k49 : fnX Tryd.prog (tabS T13) gl (ctlOf Tryd.f49 gl s49) Tryd.f49 s49 = some S49 := by kernel_rfl
noncomputable def F49 : Fun := S49.run (tabF T13) true
theorem x49 : AllOk Tryd.prog (tabF T13) gl (tabS T13) := A13
theorem y49 : LoopsOk (tabF T13) (ctlOf Tryd.f49 gl s49) := (LoopsOk.nil rfl)
theorem z49 : (wsEm S49.em (argI s49.args) (argB s49.args) && shOk s49 && s49.pre) = true := by kernel_rfl
theorem d49 : Contract Tryd.prog gl 49 s49 (S49.run (tabF T13) s49.pre) := contract_pre x49 Tryd.func49 y49 k49 z49
theorem c49 : Contract Tryd.prog gl 49 s49 F49 := d49
theorem call49 : ∀ args w, (callFunc 49 args).run Tryd.prog w = .ok (.enter 49 args) w := callable_of Tryd.func49 (by kernel_rfl) (by kernel_rfl)
noncomputable def e49 : Nat × Sum × Fun := (49, s49, F49)
noncomputable def T14 : List (Nat × Sum × Fun) := e49 :: T13
theorem A14 : AllOk Tryd.prog (tabF T14) gl (tabS T14) := AllOk.cons (s := e49.2.1) c49 call49 (fun S h => by cases h) A13
/-! seepage/tone.level -/
def s76 : Sum := { args := [(.val true [.bool, .bool, .bool, (.int .u8), (.int .u8), (.int .u8)])], tup := false, res := [(false, [(.int .u8)])], pre := false }
def S76 : Smry := (.mk [(.db 3 (.not (.v 1))), (.di 3 (.ite (.v 3) (.v 2) (.v 0)))] [(.v 3)] [])
theorem k76 : fnX Tryd.prog (tabS T14) gl (ctlOf Tryd.f76 gl s76) Tryd.f76 s76 = some S76 := by kernel_rfl
noncomputable def F76 : Fun := S76.run (tabF T14) false
theorem x76 : AllOk Tryd.prog (tabF T14) gl (tabS T14) := A14
theorem y76 : LoopsOk (tabF T14) (ctlOf Tryd.f76 gl s76) := (LoopsOk.nil rfl)
theorem z76 : (wsEm S76.em (argI s76.args) (argB s76.args) && shOk s76 && noOb S76.em) = true := by kernel_rfl
theorem d76 : Contract Tryd.prog gl 76 s76 (S76.run (tabF T14) s76.pre) := contract_of x76 Tryd.func76 y76 k76 z76
theorem c76 : Contract Tryd.prog gl 76 s76 F76 := d76
theorem call76 : ∀ args w, (callFunc 76 args).run Tryd.prog w = .ok (.enter 76 args) w := callable_of Tryd.func76 (by kernel_rfl) (by kernel_rfl)
noncomputable def e76 : Nat × Sum × Fun := (76, withInl s76 S76, F76)
noncomputable def T15 : List (Nat × Sum × Fun) := e76 :: T14
theorem A15 : AllOk Tryd.prog (tabF T15) gl (tabS T15) := AllOk.cons (s := e76.2.1) c76 call76 (fun S h => by cases h; exact ⟨rfl, fun _ _ => rfl⟩) A14
/-! seepage/tone.NoiseOut -/
def s50 : Sum := { args := [(.val true [.bool, .bool, .bool, (.int .u8), (.int .u8), (.int .u8), .bool, .bool, (.int .u8), .bool, (.int .u8), (.int .u16), (.int .u16)])], tup := false, res := [(false, [(.int .u8)])], pre := false }
def S50 : Smry := (.mk [(.call 70 [(.v 0), (.v 1), (.v 2), (.v 3), (.v 4), (.v 5), (.v 6)] [(.v 0), (.v 1), (.v 2), (.v 3), (.v 4), (.v 5)] 7 0 6 1), (.db 7 (.not (.v 6))), (.db 8 (.cm .eql (.v 3) (.c 0))), (.db 9 (.or (.v 7) (.v 8))), (.di 7 (.ar .and .u16 (.v 6) (.c 1))), (.db 10 (.cm .gtr (.v 7) (.c 0))), (.db 11 (.or (.v 9) (.v 10))), (.db 12 (.not (.v 1))), (.di 8 (.ite (.v 12) (.v 2) (.v 0))), (.db 13 (.not (.v 11))), (.di 9 (.ite (.v 13) (.v 8) (.c 0)))] [(.v 9)] [])
theorem k50 : fnX Tryd.prog (tabS T15) gl (ctlOf Tryd.f50 gl s50) Tryd.f50 s50 = some S50 := by kernel_rfl
noncomputable def F50 : Fun := S50.run (tabF T15) false
theorem x50 : AllOk Tryd.prog (tabF T15) gl (tabS T15) := A15
theorem y50 : LoopsOk (tabF T15) (ctlOf Tryd.f50 gl s50) := (LoopsOk.nil rfl)
theorem z50 : (wsEm S50.em (argI s50.args) (argB s50.args) && shOk s50 && noOb S50.em) = true := by kernel_rfl
theorem d50 : Contract Tryd.prog gl 50 s50 (S50.run (tabF T15) s50.pre) := contract_of x50 Tryd.func50 y50 k50 z50
theorem c50 : Contract Tryd.prog gl 50 s50 F50 := d50
theorem call50 : ∀ args w, (callFunc 50 args).run Tryd.prog w = .ok (.enter 50 args) w := callable_of Tryd.func50 (by kernel_rfl) (by kernel_rfl)
noncomputable def e50 : Nat × Sum × Fun := (50, s50, F50)
noncomputable def T16 : List (Nat × Sum × Fun) := e50 :: T15
theorem A16 : AllOk Tryd.prog (tabF T16) gl (tabS T16) := AllOk.cons (s := e50.2.1) c50 call50 (fun S h => by cases h) A15
/-! seepage/seepageref18.level -/
def s82 : Sum := { args := [(.val true [.bool, .bool, .bool, (.int .u8), (.int .u8), (.int .u8)])], tup := false, res := [(false, [(.int .u8)])], pre := false }
def S82 : Smry := (.mk [(.db 3 (.not (.v 1))), (.di 3 (.ite (.v 3) (.v 2) (.v 0)))] [(.v 3)] [])
theorem k82 : fnX Tryd.prog (tabS T16) gl (ctlOf Tryd.f82 gl s82) Tryd.f82 s82 = some S82 := by kernel_rfl
noncomputable def F82 : Fun := S82.run (tabF T16) false
theorem x82 : AllOk Tryd.prog (tabF T16) gl (tabS T16) := A16
theorem y82 : LoopsOk (tabF T16) (ctlOf Tryd.f82 gl s82) := (LoopsOk.nil rfl)
theorem z82 : (wsEm S82.em (argI s82.args) (argB s82.args) && shOk s82 && noOb S82.em) = true := by kernel_rfl
theorem d82 : Contract Tryd.prog gl 82 s82 (S82.run (tabF T16) s82.pre) := contract_of x82 Tryd.func82 y82 k82 z82
theorem c82 : Contract Tryd.prog gl 82 s82 F82 := d82
theorem call82 : ∀ args w, (callFunc 82 args).run Tryd.prog w = .ok (.enter 82 args) w := callable_of Tryd.func82 (by kernel_rfl) (by kernel_rfl)
noncomputable def e82 : Nat × Sum × Fun := (82, withInl s82 S82, F82)
noncomputable def T17 : List (Nat × Sum × Fun) := e82 :: T16
theorem A17 : AllOk Tryd.prog (tabF T17) gl (tabS T17) := AllOk.cons (s := e82.2.1) c82 call82 (fun S h => by cases h; exact ⟨rfl, fun _ _ => rfl⟩) A16
/-! seepage/seepageref18.NoiseOut -/
def s51 : Sum := { args := [(.val true [.bool, .bool, .bool, (.int .u8), (.int .u8), (.int .u8), .bool, .bool, (.int .u8), .bool, (.int .u8), (.int .u16), (.int .u16)])], tup := false, res := [(false, [(.int .u8)])], pre := false }
def S51 : Smry := (.mk [(.call 39 [(.v 0), (.v 1), (.v 2), (.v 3), (.v 4), (.v 5), (.v 6)] [(.v 0), (.v 1), (.v 2), (.v 3), (.v 4), (.v 5)] 7 0 6 1), (.db 7 (.not (.v 6))), (.db 8 (.cm .eql (.v 3) (.c 0))), (.db 9 (.or (.v 7) (.v 8))), (.di 7 (.ar .rem .u16 (.v 6) (.c 2))), (.db 10 (.cm .eql (.v 7) (.c 1))), (.db 11 (.or (.v 9) (.v 10))), (.db 12 (.not (.v 1))), (.di 8 (.ite (.v 12) (.v 2) (.v 0))), (.db 13 (.not (.v 11))), (.di 9 (.ite (.v 13) (.v 8) (.c 0)))] [(.v 9)] [])
theorem k51 : fnX Tryd.prog (tabS T17) gl (ctlOf Tryd.f51 gl s51) Tryd.f51 s51 = some S51 := by kernel_rfl
noncomputable def F51 : Fun := S51.run (tabF T17) false
theorem x51 : AllOk Tryd.prog (tabF T17) gl (tabS T17) := A17
theorem y51 : LoopsOk (tabF T17) (ctlOf Tryd.f51 gl s51) := (LoopsOk.nil rfl)
theorem z51 : (wsEm S51.em (argI s51.args) (argB s51.args) && shOk s51 && noOb S51.em) = true := by kernel_rfl
theorem d51 : Contract Tryd.prog gl 51 s51 (S51.run (tabF T17) s51.pre) := contract_of x51 Tryd.func51 y51 k51 z51
theorem c51 : Contract Tryd.prog gl 51 s51 F51 := d51
theorem call51 : ∀ args w, (callFunc 51 args).run Tryd.prog w = .ok (.enter 51 args) w := callable_of Tryd.func51 (by kernel_rfl) (by kernel_rfl)
noncomputable def e51 : Nat × Sum × Fun := (51, s51, F51)
noncomputable def T18 : List (Nat × Sum × Fun) := e51 :: T17
theorem A18 : AllOk Tryd.prog (tabF T18) gl (tabS T18) := AllOk.cons (s := e51.2.1) c51 call51 (fun S h => by cases h) A17
/-! seepage/tone.pulse -/
def s68 : Sum := { args := [(.val true [.bool, .bool, .bool, .bool, (.int .u8), (.int .u8), (.int .u8), .bool, .bool, (.int .u8), (.int .u8), (.int .u8), (.int .u16), (.int .u16), .bool, .bool, .bool, (.int .u8), (.int .u8), (.int .u8)])], tup := false, res := [(false, [.bool])], pre := false }
def S68 : Smry := (.mk [(.di 11 (.mx (.v 0) (.v 1))), (.di 12 (.mx (.v 11) (.v 2))), (.db 9 (.cm .lss (.v 12) (.c 16))), (.db 10 (.cm .lss (.v 4) (.c 4))), (.db 11 (.and (.v 9) (.v 10))), (.di 13 (.mx (.v 5) (.v 8))), (.di 14 (.mx (.v 13) (.v 9))), (.di 15 (.mx (.v 14) (.v 10))), (.db 12 (.cm .lss (.v 15) (.c 8))), (.db 13 (.and (.v 11) (.v 12))), (.di 16 (.mx (.v 6) (.v 7))), (.db 14 (.cm .lss (.v 16) (.c 2048))), (.db 15 (.and (.v 13) (.v 14)))] [] [(.v 15)])
theorem k68 : fnX Tryd.prog (tabS T18) gl (ctlOf Tryd.f68 gl s68) Tryd.f68 s68 = some S68 := by kernel_rfl
noncomputable def F68 : Fun := S68.run (tabF T18) false
theorem x68 : AllOk Tryd.prog (tabF T18) gl (tabS T18) := A18
theorem y68 : LoopsOk (tabF T18) (ctlOf Tryd.f68 gl s68) := (LoopsOk.nil rfl)
theorem z68 : (wsEm S68.em (argI s68.args) (argB s68.args) && shOk s68 && noOb S68.em) = true := by kernel_rfl
theorem d68 : Contract Tryd.prog gl 68 s68 (S68.run (tabF T18) s68.pre) := contract_of x68 Tryd.func68 y68 k68 z68
theorem c68 : Contract Tryd.prog gl 68 s68 F68 := d68
theorem call68 : ∀ args w, (callFunc 68 args).run Tryd.prog w = .ok (.enter 68 args) w := callable_of Tryd.func68 (by kernel_rfl) (by kernel_rfl)
noncomputable def e68 : Nat × Sum × Fun := (68, s68, F68)
noncomputable def T19 : List (Nat × Sum × Fun) := e68 :: T18
theorem A19 : AllOk Tryd.prog (tabF T19) gl (tabS T19) := AllOk.cons (s := e68.2.1) c68 call68 (fun S h => by cases h) A18
/-! seepage/tone.period -/
def s72 : Sum := { args := [(.ptr [(.int .u16)]), (.val false [(.int .i64)]), (.val false [(.int .u8)])], tup := true, res := [], pre := false }
def S72 : Smry := (.mk [(.db 0 (.cm .eql (.v 1) (.c 2))), (.di 3 (.ar .and .u16 (.v 0) (.c 1792))), (.di 4 (.cv .u16 (.v 2))), (.di 5 (.ar .or .u16 (.v 3) (.v 4))), (.di 6 (.ar .and .u16 (.v 0) (.c 255))), (.di 7 (.ar .and .u8 (.v 2) (.c 7))), (.di 8 (.cv .u16 (.v 7))), (.di 9 (.ar .shl .u16 (.v 8) (.c 8))), (.di 10 (.ar .or .u16 (.v 6) (.v 9))), (.di 11 (.ite (.v 0) (.v 5) (.v 10)))] [(.v 11)] [])
theorem k72 : fnX Tryd.prog (tabS T19) gl (ctlOf Tryd.f72 gl s72) Tryd.f72 s72 = some S72 := by kernel_rfl
noncomputable def F72 : Fun := S72.run (tabF T19) false
theorem x72 : AllOk Tryd.prog (tabF T19) gl (tabS T19) := A19
theorem y72 : LoopsOk (tabF T19) (ctlOf Tryd.f72 gl s72) := (LoopsOk.nil rfl)
theorem z72 : (wsEm S72.em (argI s72.args) (argB s72.args) && shOk s72 && noOb S72.em) = true := by kernel_rfl
theorem d72 : Contract Tryd.prog gl 72 s72 (S72.run (tabF T19) s72.pre) := contract_of x72 Tryd.func72 y72 k72 z72
theorem c72 : Contract Tryd.prog gl 72 s72 F72 := d72
theorem call72 : ∀ args w, (callFunc 72 args).run Tryd.prog w = .ok (.enter 72 args) w := callable_of Tryd.func72 (by kernel_rfl) (by kernel_rfl)
noncomputable def e72 : Nat × Sum × Fun := (72, withInl s72 S72, F72)
noncomputable def T20 : List (Nat × Sum × Fun) := e72 :: T19
theorem A20 : AllOk Tryd.prog (tabF T20) gl (tabS T20) := AllOk.cons (s := e72.2.1) c72 call72 (fun S h => by cases h; exact ⟨rfl, fun _ _ => rfl⟩) A19
/-! seepage/tone.PulseWrite -/
def s32 : Sum := { args := [(.val true [.bool, .bool, .bool, .bool, (.int .u8), (.int .u8), (.int .u8), .bool, .bool, (.int .u8), (.int .u8), (.int .u8), (.int .u16), (.int .u16), .bool, .bool, .bool, (.int .u8), (.int .u8), (.int .u8)]), (.val false [(.int .i64)]), (.val false [(.int .u8)])], tup := false, res := [(true, [.bool, .bool, .bool, .bool, (.int .u8), (.int .u8), (.int .u8), .bool, .bool, (.int .u8), (.int .u8), (.int .u8), (.int .u16), (.int .u16), .bool, .bool, .bool, (.int .u8), (.int .u8), (.int .u8)])], pre := true }
def S32 : Smry := (.mk [(.call 68 [(.v 0), (.v 1), (.v 2), (.v 3), (.v 4), (.v 5), (.v 6), (.v 7), (.v 8), (.v 9), (.v 10)] [(.v 0), (.v 1), (.v 2), (.v 3), (.v 4), (.v 5), (.v 6), (.v 7), (.v 8)] 13 0 9 1), (.db 10 (.not (.v 9))), (.db 11 (.cm .eql (.v 11) (.c 0))), (.di 13 (.ar .shr .u8 (.v 12) (.c 6))), (.di 14 (.ar .and .u8 (.v 12) (.c 32))), (.db 12 (.cm .gtr (.v 14) (.c 0))), (.di 15 (.ar .and .u8 (.v 12) (.c 16))), (.db 13 (.cm .gtr (.v 15) (.c 0))), (.di 16 (.ar .and .u8 (.v 12) (.c 15))), (.db 14 (.cm .eql (.v 11) (.c 1))), (.di 17 (.ar .and .u8 (.v 12) (.c 128))), (.db 15 (.cm .gtr (.v 17) (.c 0))), (.di 18 (.ar .shr .u8 (.v 12) (.c 4))), (.di 19 (.ar .and .u8 (.v 18) (.c 7))), (.di 20 (.ar .and .u8 (.v 12) (.c 8))), (.db 16 (.cm .gtr (.v 20) (.c 0))), (.di 21 (.ar .and .u8 (.v 12) (.c 7))), (.db 17 (.cm .eql (.v 11) (.c 2))), (.db 18 (.cm .eql (.v 11) (.c 3))), (.db 19 (.ite (.v 17) (.v 17) (.v 18))), (.db 20 (.cm .eql (.v 11) (.c 2))), (.di 22 (.ar .and .u16 (.v 6) (.c 1792))), (.di 23 (.cv .u16 (.v 12))), (.di 24 (.ar .or .u16 (.v 22) (.v 23))), (.di 25 (.ar .and .u16 (.v 6) (.c 255))), (.di 26 (.ar .and .u8 (.v 12) (.c 7))), (.di 27 (.cv .u16 (.v 26))), (.di 28 (.ar .shl .u16 (.v 27) (.c 8))), (.di 29 (.ar .or .u16 (.v 25) (.v 28))), (.di 30 (.ite (.v 20) (.v 24) (.v 29))), (.db 21 (.cm .eql (.v 11) (.c 3))), (.call 73 [(.v 3), (.v 12)] [(.v 4), (.v 5)] 31 1 22 3), (.ob [((.v 10), false), ((.v 11), false), ((.v 14), false), ((.v 19), true), ((.v 21), true)] (.v 22)), (.db 25 (.or (.v 21) (.v 3))), (.db 26 (.ite (.v 21) (.v 23) (.v 4))), (.db 27 (.ite (.v 21) (.v 24) (.v 5))), (.di 32 (.ite (.v 21) (.v 31) (.v 3))), (.di 33 (.ite (.v 21) (.c 0) (.v 5))), (.db 28 (.ite (.v 19) (.v 25) (.v 3))), (.db 29 (.ite (.v 19) (.v 26) (.v 4))), (.db 30 (.ite (.v 19) (.v 27) (.v 5))), (.di 34 (.ite (.v 19) (.v 32) (.v 3))), (.di 35 (.ite (.v 19) (.v 33) (.v 5))), (.di 36 (.ite (.v 19) (.v 30) (.v 6))), (.db 31 (.ite (.v 14) (.v 3) (.v 28))), (.db 32 (.ite (.v 14) (.v 4) (.v 29))), (.db 33 (.ite (.v 14) (.v 5) (.v 30))), (.di 37 (.ite (.v 14) (.v 3) (.v 34))), (.di 38 (.ite (.v 14) (.v 5) (.v 35))), (.di 39 (.ite (.v 14) (.v 6) (.v 36))), (.db 34 (.ite (.v 14) (.v 15) (.v 6))), (.db 35 (.ite (.v 14) (.v 16) (.v 7))), (.db 36 (.or (.v 14) (.v 8))), (.di 40 (.ite (.v 14) (.v 19) (.v 8))), (.di 41 (.ite (.v 14) (.v 21) (.v 9))), (.db 37 (.ite (.v 11) (.v 12) (.v 1))), (.db 38 (.ite (.v 11) (.v 13) (.v 2))), (.db 39 (.ite (.v 11) (.v 3) (.v 31))), (.di 42 (.ite (.v 11) (.v 16) (.v 0))), (.db 40 (.ite (.v 11) (.v 12) (.v 32))), (.db 41 (.ite (.v 11) (.v 5) (.v 33))), (.di 43 (.ite (.v 11) (.v 3) (.v 37))), (.di 44 (.ite (.v 11) (.v 13) (.v 4))), (.di 45 (.ite (.v 11) (.v 5) (.v 38))), (.di 46 (.ite (.v 11) (.v 6) (.v 39))), (.db 42 (.ite (.v 11) (.v 6) (.v 34))), (.db 43 (.ite (.v 11) (.v 7) (.v 35))), (.db 44 (.ite (.v 11) (.v 8) (.v 36))), (.di 47 (.ite (.v 11) (.v 8) (.v 40))), (.di 48 (.ite (.v 11) (.v 9) (.v 41))), (.db 45 (.not (.v 10))), (.db 46 (.ite (.v 45) (.v 37) (.v 1))), (.db 47 (.ite (.v 45) (.v 38) (.v 2))), (.db 48 (.ite (.v 45) (.v 39) (.v 3))), (.di 49 (.ite (.v 45) (.v 42) (.v 0))), (.db 49 (.ite (.v 45) (.v 40) (.v 4))), (.db 50 (.ite (.v 45) (.v 41) (.v 5))), (.di 50 (.ite (.v 45) (.v 43) (.v 3))), (.di 51 (.ite (.v 45) (.v 44) (.v 4))), (.di 52 (.ite (.v 45) (.v 45) (.v 5))), (.di 53 (.ite (.v 45) (.v 46) (.v 6))), (.db 51 (.ite (.v 45) (.v 42) (.v 6))), (.db 52 (.ite (.v 45) (.v 43) (.v 7))), (.db 53 (.ite (.v 45) (.v 44) (.v 8))), (.di 54 (.ite (.v 45) (.v 47) (.v 8))), (.di 55 (.ite (.v 45) (.v 48) (.v 9)))] [(.v 49), (.v 1), (.v 2), (.v 50), (.v 51), (.v 52), (.v 53), (.v 7), (.v 54), (.v 55), (.v 10)] [(.v 0), (.v 46), (.v 47), (.v 48), (.v 49), (.v 50), (.v 51), (.v 52), (.v 53)])
theorem k32 : fnX Tryd.prog (tabS T20) gl (ctlOf Tryd.f32 gl s32) Tryd.f32 s32 = some S32 := by kernel_rfl
noncomputable def F32 : Fun := S32.run (tabF T20) true
theorem x32 : AllOk Tryd.prog (tabF T20) gl (tabS T20) := A20
theorem y32 : LoopsOk (tabF T20) (ctlOf Tryd.f32 gl s32) := (LoopsOk.nil rfl)
theorem z32 : (wsEm S32.em (argI s32.args) (argB s32.args) && shOk s32 && s32.pre) = true := by kernel_rfl
theorem d32 : Contract Tryd.prog gl 32 s32 (S32.run (tabF T20) s32.pre) := contract_pre x32 Tryd.func32 y32 k32 z32
theorem c32 : Contract Tryd.prog gl 32 s32 F32 := d32
theorem call32 : ∀ args w, (callFunc 32 args).run Tryd.prog w = .ok (.enter 32 args) w := callable_of Tryd.func32 (by kernel_rfl) (by kernel_rfl)
noncomputable def e32 : Nat × Sum × Fun := (32, s32, F32)
noncomputable def T21 : List (Nat × Sum × Fun) := e32 :: T20
theorem A21 : AllOk Tryd.prog (tabF T21) gl (tabS T21) := AllOk.cons (s := e32.2.1) c32 call32 (fun S h => by cases h) A20
/-! seepage/tone.triangle -/
def s69 : Sum := { args := [(.val true [.bool, .bool, (.int .u8), (.int .u8), (.int .u8), .bool, (.int .u8), (.int .u16), (.int .u16)])], tup := false, res := [(false, [.bool])], pre := false }
def S69 : Smry := (.mk [(.di 6 (.mx (.v 1) (.v 2))), (.db 3 (.cm .lss (.v 6) (.c 128))), (.db 4 (.cm .lss (.v 3) (.c 32))), (.db 5 (.and (.v 3) (.v 4))), (.di 7 (.mx (.v 4) (.v 5))), (.db 6 (.cm .lss (.v 7) (.c 2048))), (.db 7 (.and (.v 5) (.v 6)))] [] [(.v 7)])
theorem k69 : fnX Tryd.prog (tabS T21) gl (ctlOf Tryd.f69 gl s69) Tryd.f69 s69 = some S69 := by kernel_rfl
noncomputable def F69 : Fun := S69.run (tabF T21) false
theorem x69 : AllOk Tryd.prog (tabF T21) gl (tabS T21) := A21
theorem y69 : LoopsOk (tabF T21) (ctlOf Tryd.f69 gl s69) := (LoopsOk.nil rfl)
theorem z69 : (wsEm S69.em (argI s69.args) (argB s69.args) && shOk s69 && noOb S69.em) = true := by kernel_rfl
theorem d69 : Contract Tryd.prog gl 69 s69 (S69.run (tabF T21) s69.pre) := contract_of x69 Tryd.func69 y69 k69 z69
theorem c69 : Contract Tryd.prog gl 69 s69 F69 := d69
theorem call69 : ∀ args w, (callFunc 69 args).run Tryd.prog w = .ok (.enter 69 args) w := callable_of Tryd.func69 (by kernel_rfl) (by kernel_rfl)
noncomputable def e69 : Nat × Sum × Fun := (69, s69, F69)
noncomputable def T22 : List (Nat × Sum × Fun) := e69 :: T21
theorem A22 : AllOk Tryd.prog (tabF T22) gl (tabS T22) := AllOk.cons (s := e69.2.1) c69 call69 (fun S h => by cases h) A21
/-! seepage/tone.TriangleOut -/
def s58 : Sum := { args := [(.val true [.bool, .bool, (.int .u8), (.int .u8), (.int .u8), .bool, (.int .u8), (.int .u16), (.int .u16)])], tup := false, res := [(false, [(.int .u8)])], pre := false }
def S58 : Smry := (.mk [(.call 69 [(.v 0), (.v 1), (.v 2), (.v 3), (.v 4), (.v 5)] [(.v 0), (.v 1), (.v 2)] 6 0 3 1), (.db 4 (.not (.v 3))), (.db 5 (.cm .lss (.v 3) (.c 16))), (.di 6 (.ar .sub .u8 (.c 15) (.v 3))), (.db 6 (.or (.v 4) (.v 5))), (.di 7 (.ite (.v 4) (.c 0) (.v 6))), (.di 8 (.ar .sub .u8 (.v 3) (.c 16))), (.db 7 (.not (.v 4))), (.db 8 (.not (.v 5))), (.db 9 (.and (.v 7) (.v 8))), (.di 9 (.ite (.v 9) (.v 8) (.v 7)))] [(.v 9)] [])
theorem k58 : fnX Tryd.prog (tabS T22) gl (ctlOf Tryd.f58 gl s58) Tryd.f58 s58 = some S58 := by kernel_rfl
noncomputable def F58 : Fun := S58.run (tabF T22) false
theorem x58 : AllOk Tryd.prog (tabF T22) gl (tabS T22) := A22
theorem y58 : LoopsOk (tabF T22) (ctlOf Tryd.f58 gl s58) := (LoopsOk.nil rfl)
theorem z58 : (wsEm S58.em (argI s58.args) (argB s58.args) && shOk s58 && noOb S58.em) = true := by kernel_rfl
theorem d58 : Contract Tryd.prog gl 58 s58 (S58.run (tabF T22) s58.pre) := contract_of x58 Tryd.func58 y58 k58 z58
theorem c58 : Contract Tryd.prog gl 58 s58 F58 := d58
theorem call58 : ∀ args w, (callFunc 58 args).run Tryd.prog w = .ok (.enter 58 args) w := callable_of Tryd.func58 (by kernel_rfl) (by kernel_rfl)
noncomputable def e58 : Nat × Sum × Fun := (58, s58, F58)
noncomputable def T23 : List (Nat × Sum × Fun) := e58 :: T22
theorem A23 : AllOk Tryd.prog (tabF T23) gl (tabS T23) := AllOk.cons (s := e58.2.1) c58 call58 (fun S h => by cases h) A22
/-! seepage/tone.target -/
def s75 : Sum := { args := [(.val true [.bool, .bool, .bool, .bool, (.int .u8), (.int .u8), (.int .u8), .bool, .bool, (.int .u8), (.int .u8), (.int .u8), (.int .u16), (.int .u16), .bool, .bool, .bool, (.int .u8), (.int .u8), (.int .u8)])], tup := false, res := [(false, [(.int .u16)])], pre := true }
def S75 : Smry := (.mk [(.db 9 (.cm .geq (.v 9) (.c 0))), (.ob [] (.v 9)), (.di 11 (.ar .shr .u16 (.v 6) (.v 9))), (.db 10 (.not (.v 7))), (.di 12 (.ar .add .u16 (.v 6) (.v 11))), (.db 11 (.not (.v 0))), (.di 13 (.ar .add .u16 (.v 11) (.c 1))), (.di 14 (.ite (.v 11) (.v 13) (.v 11))), (.di 15 (.mn (.v 14) (.v 6))), (.di 16 (.ar .sub .u16 (.v 6) (.v 15))), (.db 12 (.not (.v 10))), (.di 17 (.ite (.v 12) (.v 16) (.v 12)))] [(.v 17)] [])
theorem k75 : fnX Tryd.prog (tabS T23) gl (ctlOf Tryd.f75 gl s75) Tryd.f75 s75 = some S75 := by kernel_rfl
noncomputable def F75 : Fun := S75.run (tabF T23) true
theorem x75 : AllOk Tryd.prog (tabF T23) gl (tabS T23) := A23
theorem y75 : LoopsOk (tabF T23) (ctlOf Tryd.f75 gl s75) := (LoopsOk.nil rfl)
theorem z75 : (wsEm S75.em (argI s75.args) (argB s75.args) && shOk s75 && s75.pre) = true := by kernel_rfl
theorem d75 : Contract Tryd.prog gl 75 s75 (S75.run (tabF T23) s75.pre) := contract_pre x75 Tryd.func75 y75 k75 z75
theorem c75 : Contract Tryd.prog gl 75 s75 F75 := d75
theorem call75 : ∀ args w, (callFunc 75 args).run Tryd.prog w = .ok (.enter 75 args) w := callable_of Tryd.func75 (by kernel_rfl) (by kernel_rfl)
noncomputable def e75 : Nat × Sum × Fun := (75, s75, F75)
noncomputable def T24 : List (Nat × Sum × Fun) := e75 :: T23
theorem A24 : AllOk Tryd.prog (tabF T24) gl (tabS T24) := AllOk.cons (s := e75.2.1) c75 call75 (fun S h => by cases h) A23
/-! seepage/tone.mute -/
def s74 : Sum := { args := [(.val true [.bool, .bool, .bool, .bool, (.int .u8), (.int .u8), (.int .u8), .bool, .bool, (.int .u8), (.int .u8), (.int .u8), (.int .u16), (.int .u16), .bool, .bool, .bool, (.int .u8), (.int .u8), (.int .u8)])], tup := false, res := [(false, [.bool])], pre := true }
def S74 : Smry := (.mk [(.db 9 (.cm .lss (.v 6) (.c 8))), (.call 75 [(.v 0), (.v 1), (.v 2), (.v 3), (.v 4), (.v 5), (.v 6), (.v 7), (.v 8), (.v 9), (.v 10)] [(.v 0), (.v 1), (.v 2), (.v 3), (.v 4), (.v 5), (.v 6), (.v 7), (.v 8)] 11 1 10 1), (.ob [((.v 9), false)] (.v 10)), (.db 11 (.cm .gtr (.v 11) (.c 2047))), (.db 12 (.or (.v 9) (.v 11)))] [] [(.v 12)])
theorem k74 : fnX Tryd.prog (tabS T24) gl (ctlOf Tryd.f74 gl s74) Tryd.f74 s74 = some S74 := by kernel_rfl
noncomputable def F74 : Fun := S74.run (tabF T24) true
theorem x74 : AllOk Tryd.prog (tabF T24) gl (tabS T24) := A24
theorem y74 : LoopsOk (tabF T24) (ctlOf Tryd.f74 gl s74) := (LoopsOk.nil rfl)
theorem z74 : (wsEm S74.em (argI s74.args) (argB s74.args) && shOk s74 && s74.pre) = true := by kernel_rfl
theorem d74 : Contract Tryd.prog gl 74 s74 (S74.run (tabF T24) s74.pre) := contract_pre x74 Tryd.func74 y74 k74 z74
theorem c74 : Contract Tryd.prog gl 74 s74 F74 := d74
theorem call74 : ∀ args w, (callFunc 74 args).run Tryd.prog w = .ok (.enter 74 args) w := callable_of Tryd.func74 (by kernel_rfl) (by kernel_rfl)
noncomputable def e74 : Nat × Sum × Fun := (74, s74, F74)
noncomputable def T25 : List (Nat × Sum × Fun) := e74 :: T24
theorem A25 : AllOk Tryd.prog (tabF T25) gl (tabS T25) := AllOk.cons (s := e74.2.1) c74 call74 (fun S h => by cases h) A24
/-! seepage/tone.PulseOut -/
def s36 : Sum := { args := [(.val true [.bool, .bool, .bool, .bool, (.int .u8), (.int .u8), (.int .u8), .bool, .bool, (.int .u8), (.int .u8), (.int .u8), (.int .u16), (.int .u16), .bool, .bool, .bool, (.int .u8), (.int .u8), (.int .u8)])], tup := false, res := [(false, [(.int .u8)])], pre := true }
def S36 : Smry := (.mk [(.call 68 [(.v 0), (.v 1), (.v 2), (.v 3), (.v 4), (.v 5), (.v 6), (.v 7), (.v 8), (.v 9), (.v 10)] [(.v 0), (.v 1), (.v 2), (.v 3), (.v 4), (.v 5), (.v 6), (.v 7), (.v 8)] 11 0 9 1), (.db 10 (.not (.v 9))), (.db 11 (.cm .eql (.v 3) (.c 0))), (.db 12 (.or (.v 10) (.v 11))), (.call 74 [(.v 0), (.v 1), (.v 2), (.v 3), (.v 4), (.v 5), (.v 6), (.v 7), (.v 8), (.v 9), (.v 10)] [(.v 0), (.v 1), (.v 2), (.v 3), (.v 4), (.v 5), (.v 6), (.v 7), (.v 8)] 11 0 13 2), (.ob [((.v 12), false)] (.v 13)), (.db 15 (.or (.v 12) (.v 14))), (.db 16 (.cm .geq (.v 4) (.c 0))), (.ob [((.v 15), false)] (.v 16)), (.db 17 (.cm .lss (.v 4) (.c 4))), (.ob [((.v 15), false)] (.v 17)), (.di 11 (.tab [2, 6, 30, 249] (.v 4))), (.db 18 (.cm .geq (.v 5) (.c 0))), (.ob [((.v 15), false)] (.v 18)), (.di 12 (.ar .shr .u8 (.v 11) (.v 5))), (.di 13 (.ar .and .u8 (.v 12) (.c 1))), (.db 19 (.cm .eql (.v 13) (.c 0))), (.db 20 (.or (.v 15) (.v 19))), (.db 21 (.not (.v 2))), (.di 14 (.ite (.v 21) (.v 2) (.v 0))), (.db 22 (.not (.v 20))), (.di 15 (.ite (.v 22) (.v 14) (.c 0)))] [(.v 15)] [])
theorem k36 : fnX Tryd.prog (tabS T25) gl (ctlOf Tryd.f36 gl s36) Tryd.f36 s36 = some S36 := by kernel_rfl
noncomputable def F36 : Fun := S36.run (tabF T25) true
theorem x36 : AllOk Tryd.prog (tabF T25) gl (tabS T25) := A25
theorem y36 : LoopsOk (tabF T25) (ctlOf Tryd.f36 gl s36) := (LoopsOk.nil rfl)
theorem z36 : (wsEm S36.em (argI s36.args) (argB s36.args) && shOk s36 && s36.pre) = true := by kernel_rfl
theorem d36 : Contract Tryd.prog gl 36 s36 (S36.run (tabF T25) s36.pre) := contract_pre x36 Tryd.func36 y36 k36 z36
theorem c36 : Contract Tryd.prog gl 36 s36 F36 := d36
theorem call36 : ∀ args w, (callFunc 36 args).run Tryd.prog w = .ok (.enter 36 args) w := callable_of Tryd.func36 (by kernel_rfl) (by kernel_rfl)
noncomputable def e36 : Nat × Sum × Fun := (36, s36, F36)
noncomputable def T26 : List (Nat × Sum × Fun) := e36 :: T25
theorem A26 : AllOk Tryd.prog (tabF T26) gl (tabS T26) := AllOk.cons (s := e36.2.1) c36 call36 (fun S h => by cases h) A25
/-! seepage/seepagelaw18.awake -/
def s31 : Sum := { args := [], tup := false, res := [(false, [.bool])], pre := true }
def S31 : Smry := (.mk [(.call 32 [(.c 0), (.c 0), (.c 0), (.c 0), (.c 0), (.c 0), (.c 0), (.c 0), (.c 0), (.c 0), (.c 0), (.c 3), (.c 8)] [(.c false), (.c false), (.c false), (.c false), (.c false), (.c true), (.c false), (.c false), (.c false)] 0 11 0 10), (.ob [] (.v 0)), (.db 10 (.cm .eql (.v 3) (.c 254))), (.call 58 [(.c 0), (.c 0), (.c 0), (.c 0), (.c 0), (.c 0)] [(.c false), (.c false), (.c false)] 11 1 11 0), (.db 11 (.cm .eql (.v 11) (.c 15))), (.db 12 (.and (.v 10) (.v 11))), (.call 36 [(.c 9), (.c 0), (.c 0), (.c 5), (.c 0), (.c 1), (.c 7), (.c 0), (.c 0), (.c 0), (.c 0)] [(.c false), (.c false), (.c true), (.c false), (.c false), (.c true), (.c false), (.c false), (.c false)] 12 1 13 1), (.ob [((.v 12), true)] (.v 13)), (.db 14 (.cm .eql (.v 12) (.c 0))), (.db 15 (.and (.v 12) (.v 14))), (.call 36 [(.c 9), (.c 0), (.c 0), (.c 5), (.c 0), (.c 1), (.c 8), (.c 0), (.c 0), (.c 0), (.c 0)] [(.c false), (.c false), (.c true), (.c false), (.c false), (.c true), (.c false), (.c false), (.c false)] 13 1 16 1), (.ob [((.v 15), true)] (.v 16)), (.db 17 (.cm .eql (.v 13) (.c 9))), (.db 18 (.and (.v 15) (.v 17)))] [] [(.v 18)])
theorem k31 : fnX Tryd.prog (tabS T26) gl (ctlOf Tryd.f31 gl s31) Tryd.f31 s31 = some S31 := by kernel_rfl
noncomputable def F31 : Fun := S31.run (tabF T26) true
theorem x31 : AllOk Tryd.prog (tabF T26) gl (tabS T26) := A26
theorem y31 : LoopsOk (tabF T26) (ctlOf Tryd.f31 gl s31) := (LoopsOk.nil rfl)
theorem z31 : (wsEm S31.em (argI s31.args) (argB s31.args) && shOk s31 && s31.pre) = true := by kernel_rfl
theorem d31 : Contract Tryd.prog gl 31 s31 (S31.run (tabF T26) s31.pre) := contract_pre x31 Tryd.func31 y31 k31 z31
theorem c31 : Contract Tryd.prog gl 31 s31 F31 := d31
theorem call31 : ∀ args w, (callFunc 31 args).run Tryd.prog w = .ok (.enter 31 args) w := callable_of Tryd.func31 (by kernel_rfl) (by kernel_rfl)
noncomputable def e31 : Nat × Sum × Fun := (31, s31, F31)
noncomputable def T27 : List (Nat × Sum × Fun) := e31 :: T26
theorem A27 : AllOk Tryd.prog (tabF T27) gl (tabS T27) := AllOk.cons (s := e31.2.1) c31 call31 (fun S h => by cases h) A26
/-! seepage/seepagelaw18.ToneNoise -/
def s10 : Sum := { args := [(.val true [.bool, .bool, .bool, .bool, (.int .u8), (.int .u8), (.int .u8), .bool, .bool, (.int .u8), (.int .u8), (.int .u8), (.int .u16), (.int .u16), .bool, .bool, .bool, (.int .u8), (.int .u8), (.int .u8), .bool, .bool, (.int .u8), (.int .u8), (.int .u8), .bool, (.int .u8), (.int .u16), (.int .u16), .bool, .bool, .bool, (.int .u8), (.int .u8), (.int .u8), .bool, .bool, (.int .u8), .bool, (.int .u8), (.int .u16), (.int .u16), (.int .i64), (.int .u8)])], tup := false, res := [(false, [.bool])], pre := true }
def S10 : Smry := (.mk [(.call 46 [(.v 17), (.v 18), (.v 19), (.v 20), (.v 21), (.v 22), (.v 23), (.v 24), (.v 25)] [(.v 12), (.v 13), (.v 14), (.v 15), (.v 16), (.v 17)] 26 7 18 7), (.ob [] (.v 18)), (.call 47 [(.v 17), (.v 18), (.v 19), (.v 20), (.v 21), (.v 22), (.v 23), (.v 24), (.v 25)] [(.v 12), (.v 13), (.v 14), (.v 15), (.v 16), (.v 17)] 33 7 25 7), (.ob [] (.v 25)), (.db 32 (.eqb (.v 19) (.v 26))), (.db 33 (.eqb (.v 20) (.v 27))), (.db 34 (.eqb (.v 21) (.v 28))), (.db 35 (.cm .eql (.v 26) (.v 33))), (.db 36 (.cm .eql (.v 27) (.v 34))), (.db 37 (.cm .eql (.v 28) (.v 35))), (.db 38 (.and (.v 36) (.v 37))), (.db 39 (.and (.v 35) (.v 38))), (.db 40 (.and (.v 34) (.v 39))), (.db 41 (.and (.v 33) (.v 40))), (.db 42 (.and (.v 32) (.v 41))), (.db 43 (.eqb (.v 22) (.v 29))), (.db 44 (.eqb (.v 23) (.v 30))), (.db 45 (.cm .eql (.v 29) (.v 36))), (.db 46 (.and (.v 44) (.v 45))), (.db 47 (.and (.v 43) (.v 46))), (.db 48 (.eqb (.v 24) (.v 31))), (.db 49 (.cm .eql (.v 30) (.v 37))), (.db 50 (.cm .eql (.v 31) (.v 38))), (.db 51 (.cm .eql (.v 32) (.v 39))), (.db 52 (.and (.v 50) (.v 51))), (.db 53 (.and (.v 49) (.v 52))), (.db 54 (.and (.v 48) (.v 53))), (.db 55 (.and (.v 47) (.v 54))), (.db 56 (.and (.v 42) (.v 55))), (.call 48 [(.v 17), (.v 18), (.v 19), (.v 20), (.v 21), (.v 22), (.v 23)] [(.v 12), (.v 13), (.v 14), (.v 15), (.v 16), (.v 17)] 40 7 57 7), (.ob [((.v 56), true)] (.v 57)), (.call 49 [(.v 17), (.v 18), (.v 19), (.v 20), (.v 21), (.v 22), (.v 23)] [(.v 12), (.v 13), (.v 14), (.v 15), (.v 16), (.v 17)] 47 7 64 7), (.ob [((.v 56), true)] (.v 64)), (.db 71 (.eqb (.v 58) (.v 65))), (.db 72 (.eqb (.v 59) (.v 66))), (.db 73 (.eqb (.v 60) (.v 67))), (.db 74 (.cm .eql (.v 40) (.v 47))), (.db 75 (.cm .eql (.v 41) (.v 48))), (.db 76 (.cm .eql (.v 42) (.v 49))), (.db 77 (.and (.v 75) (.v 76))), (.db 78 (.and (.v 74) (.v 77))), (.db 79 (.and (.v 73) (.v 78))), (.db 80 (.and (.v 72) (.v 79))), (.db 81 (.and (.v 71) (.v 80))), (.db 82 (.eqb (.v 61) (.v 68))), (.db 83 (.eqb (.v 62) (.v 69))), (.db 84 (.cm .eql (.v 43) (.v 50))), (.db 85 (.and (.v 83) (.v 84))), (.db 86 (.and (.v 82) (.v 85))), (.db 87 (.eqb (.v 63) (.v 70))), (.db 88 (.cm .eql (.v 44) (.v 51))), (.db 89 (.cm .eql (.v 45) (.v 52))), (.db 90 (.cm .eql (.v 46) (.v 53))), (.db 91 (.and (.v 89) (.v 90))), (.db 92 (.and (.v 88) (.v 91))), (.db 93 (.and (.v 87) (.v 92))), (.db 94 (.and (.v 86) (.v 93))), (.db 95 (.and (.v 81) (.v 94))), (.db 96 (.and (.v 56) (.v 95))), (.call 50 [(.v 17), (.v 18), (.v 19), (.v 20), (.v 21), (.v 22), (.v 23)] [(.v 12), (.v 13), (.v 14), (.v 15), (.v 16), (.v 17)] 54 1 97 0), (.call 51 [(.v 17), (.v 18), (.v 19), (.v 20), (.v 21), (.v 22), (.v 23)] [(.v 12), (.v 13), (.v 14), (.v 15), (.v 16), (.v 17)] 55 1 97 0), (.db 97 (.cm .eql (.v 54) (.v 55))), (.db 98 (.and (.v 96) (.v 97))), (.call 31 [] [] 56 0 99 2), (.ob [((.v 98), true)] (.v 99)), (.db 101 (.and (.v 98) (.v 100)))] [] [(.v 101)])
theorem k10 : fnX Tryd.prog (tabS T27) gl (ctlOf Tryd.f10 gl s10) Tryd.f10 s10 = some S10 := by kernel_rfl
noncomputable def F10 : Fun := S10.run (tabF T27) true
theorem x10 : AllOk Tryd.prog (tabF T27) gl (tabS T27) := A27
theorem y10 : LoopsOk (tabF T27) (ctlOf Tryd.f10 gl s10) := (LoopsOk.nil rfl)
theorem z10 : (wsEm S10.em (argI s10.args) (argB s10.args) && shOk s10 && s10.pre) = true := by kernel_rfl
theorem d10 : Contract Tryd.prog gl 10 s10 (S10.run (tabF T27) s10.pre) := contract_pre x10 Tryd.func10 y10 k10 z10
theorem c10 : Contract Tryd.prog gl 10 s10 F10 := d10
theorem call10 : ∀ args w, (callFunc 10 args).run Tryd.prog w = .ok (.enter 10 args) w := callable_of Tryd.func10 (by kernel_rfl) (by kernel_rfl)
noncomputable def e10 : Nat × Sum × Fun := (10, s10, F10)
noncomputable def T28 : List (Nat × Sum × Fun) := e10 :: T27
theorem A28 : AllOk Tryd.prog (tabF T28) gl (tabS T28) := AllOk.cons (s := e10.2.1) c10 call10 (fun S h => by cases h) A27
end Go.Proofs.YtoempcgniokpiaaDoor.Tb
