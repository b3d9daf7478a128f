/-
  The walks of dmc and of its document's answer: what each function answers, by the executor. WRITTEN BY PROGRAM (wip/gen/dmc.py). No condition.
-/
import Derived.Test.YtoempcgniokpiaaDoorSxU
import Derived.Test.YtoempcgniokpiaaDoorProg
set_option linter.unusedVariables false
namespace Go.Proofs.YtoempcgniokpiaaDoor.Dm
open Go Go.Proofs.YtoempcgniokpiaaDoor.Sx

def per : List Int := [428, 380, 340, 320, 286, 254, 226, 214, 190, 160, 142, 128, 106, 84, 72, 54]
def gl : Gl := [per.map (Value.int .u16)]
def dmc : List CK := [.bool, .bool, .bool, .int .u8, .int .u8, .int .u16, .int .u16, .int .u16, .int .u16, .int .u8, .bool, .int .u8, .int .u8, .bool, .int .u16]
def aD : Sh := .val true dmc
def aI (k : IntKind) : Sh := .val false [.int k]
def aB : Sh := .val false [.bool]
def rD : Bool × List CK := (true, dmc)
def r1 (k : IntKind) : Bool × List CK := (false, [.int k])
def rB : Bool × List CK := (false, [.bool])
def sm (a : List Sh) (r : List (Bool × List CK)) : Sum := { args := a, tup := match r with | [_] => false | _ => true, res := r, pre := false }
def withInl (s : Sum) (S : Smry) : Sum := { s with inl := some S }

def T0 : List (Nat × Sum × Fun) := []
theorem A0 : AllOk Tryd.prog (tabF T0) gl (tabS T0) := AllOk.nil
def s66 : Sum := sm [.ptr dmc] []
def S66 : Smry := (.mk [] [(.v 0), (.v 1), (.v 2), (.v 3), (.v 2), (.v 3), (.v 6), (.v 7), (.v 8), (.v 9)] [(.v 0), (.v 1), (.v 2), (.v 3), (.v 4)])
theorem k66 : fnX Tryd.prog (tabS T0) gl (ctlOf Tryd.f66 gl s66) Tryd.f66 s66 = some S66 := by kernel_rfl
theorem c66 : Contract Tryd.prog gl 66 s66 (S66.run (tabF T0) false) := contract_of A0 Tryd.func66 k66 rfl
def F66 : Fun := S66.run (tabF T0) false
theorem call66 : ∀ args w, (callFunc 66 args).run Tryd.prog w = .ok (.enter 66 args) w := callable_of Tryd.func66 (by kernel_rfl) (by kernel_rfl)
def e66 : Nat × Sum × Fun := (66, withInl s66 S66, F66)
def T1 : List (Nat × Sum × Fun) := e66 :: T0
theorem A1 : AllOk Tryd.prog (tabF T1) gl (tabS T1) := AllOk.cons (s := e66.2.1) c66 call66 (fun S h => by cases h; exact ⟨rfl, fun _ _ => rfl⟩) A0
def s67 : Sum := sm [.ptr dmc] []
def S67 : Smry := (.mk [(.di 10 (.ar .and .u8 (.v 7) (.c 1))), (.db 5 (.cm .gtr (.v 10) (.c 0))), (.db 6 (.cm .leq (.v 1) (.c 125))), (.db 7 (.and (.v 5) (.v 6))), (.di 11 (.ar .add .u8 (.v 1) (.c 2))), (.db 8 (.not (.v 5))), (.db 9 (.cm .geq (.v 1) (.c 2))), (.db 10 (.and (.v 8) (.v 9))), (.di 12 (.ar .sub .u8 (.v 1) (.c 2))), (.di 13 (.ite (.v 10) (.v 12) (.v 1))), (.di 14 (.ite (.v 7) (.v 11) (.v 13)))] [(.v 0), (.v 14), (.v 2), (.v 3), (.v 4), (.v 5), (.v 6), (.v 7), (.v 8), (.v 9)] [(.v 0), (.v 1), (.v 2), (.v 3), (.v 4)])
theorem k67 : fnX Tryd.prog (tabS T0) gl (ctlOf Tryd.f67 gl s67) Tryd.f67 s67 = some S67 := by kernel_rfl
theorem c67 : Contract Tryd.prog gl 67 s67 (S67.run (tabF T0) false) := contract_of A0 Tryd.func67 k67 rfl
def F67 : Fun := S67.run (tabF T0) false
theorem call67 : ∀ args w, (callFunc 67 args).run Tryd.prog w = .ok (.enter 67 args) w := callable_of Tryd.func67 (by kernel_rfl) (by kernel_rfl)
def e67 : Nat × Sum × Fun := (67, withInl s67 S67, F67)
def T2 : List (Nat × Sum × Fun) := e67 :: T1
theorem A2 : AllOk Tryd.prog (tabF T2) gl (tabS T2) := AllOk.cons (s := e67.2.1) c67 call67 (fun S h => by cases h; exact ⟨rfl, fun _ _ => rfl⟩) A1
def s27 : Sum := sm [] [rD]
def S27 : Smry := (.mk [] [(.c 0), (.c 0), (.c 49152), (.c 1), (.c 49152), (.c 0), (.c 0), (.c 0), (.c 8), (.c 0)] [(.c false), (.c false), (.c false), (.c false), (.c true)])
theorem k27 : fnX Tryd.prog (tabS T0) gl (ctlOf Tryd.f27 gl s27) Tryd.f27 s27 = some S27 := by kernel_rfl
theorem c27 : Contract Tryd.prog gl 27 s27 (S27.run (tabF T0) false) := contract_of A0 Tryd.func27 k27 rfl
def F27 : Fun := S27.run (tabF T0) false
theorem call27 : ∀ args w, (callFunc 27 args).run Tryd.prog w = .ok (.enter 27 args) w := callable_of Tryd.func27 (by kernel_rfl) (by kernel_rfl)
def e27 : Nat × Sum × Fun := (27, withInl s27 S27, F27)
def T3 : List (Nat × Sum × Fun) := e27 :: T2
theorem A3 : AllOk Tryd.prog (tabF T3) gl (tabS T3) := AllOk.cons (s := e27.2.1) c27 call27 (fun S h => by cases h; exact ⟨rfl, fun _ _ => rfl⟩) A2
def s17 : Sum := sm [aD] [r1 .i64]
def S17 : Smry := (.mk [(.db 5 (.cm .gtr (.v 0) (.c 15))), (.db 6 (.cm .gtr (.v 1) (.c 127))), (.db 7 (.or (.v 5) (.v 6))), (.di 10 (.mn (.v 2) (.v 4))), (.db 8 (.cm .lss (.v 10) (.c 32768))), (.db 9 (.or (.v 7) (.v 8))), (.di 11 (.mx (.v 3) (.v 5))), (.db 10 (.cm .gtr (.v 11) (.c 4081))), (.db 11 (.or (.v 9) (.v 10))), (.db 12 (.cm .lss (.v 8) (.c 1))), (.db 13 (.or (.v 11) (.v 12))), (.db 14 (.cm .gtr (.v 8) (.c 8))), (.db 15 (.or (.v 13) (.v 14))), (.db 16 (.cm .geq (.v 9) (.c 428))), (.db 17 (.or (.v 15) (.v 16))), (.db 18 (.not (.v 17))), (.di 12 (.ite (.v 18) (.c 0) (.c 1)))] [(.v 12)] [])
theorem k17 : fnX Tryd.prog (tabS T0) gl (ctlOf Tryd.f17 gl s17) Tryd.f17 s17 = some S17 := by kernel_rfl
theorem c17 : Contract Tryd.prog gl 17 s17 (S17.run (tabF T0) false) := contract_of A0 Tryd.func17 k17 rfl
def F17 : Fun := S17.run (tabF T0) false
theorem call17 : ∀ args w, (callFunc 17 args).run Tryd.prog w = .ok (.enter 17 args) w := callable_of Tryd.func17 (by kernel_rfl) (by kernel_rfl)
def e17 : Nat × Sum × Fun := (17, s17, F17)
def T4 : List (Nat × Sum × Fun) := e17 :: T3
theorem A4 : AllOk Tryd.prog (tabF T4) gl (tabS T4) := AllOk.cons (s := e17.2.1) c17 call17 (fun S h => by cases h) A3
def s18 : Sum := sm [aD] [rB]
def S18 : Smry := (.mk [(.db 5 (.cm .lss (.v 0) (.c 16))), (.db 6 (.cm .lss (.v 1) (.c 128))), (.db 7 (.and (.v 5) (.v 6))), (.db 8 (.cm .geq (.v 2) (.c 32768))), (.db 9 (.and (.v 7) (.v 8))), (.db 10 (.cm .geq (.v 4) (.c 32768))), (.db 11 (.and (.v 9) (.v 10))), (.db 12 (.cm .leq (.v 3) (.c 4081))), (.db 13 (.and (.v 11) (.v 12))), (.db 14 (.cm .leq (.v 5) (.c 4081))), (.db 15 (.and (.v 13) (.v 14))), (.db 16 (.cm .geq (.v 8) (.c 1))), (.db 17 (.and (.v 15) (.v 16))), (.db 18 (.cm .leq (.v 8) (.c 8))), (.db 19 (.and (.v 17) (.v 18))), (.db 20 (.cm .lss (.v 9) (.c 428))), (.db 21 (.and (.v 19) (.v 20)))] [] [(.v 21)])
theorem k18 : fnX Tryd.prog (tabS T0) gl (ctlOf Tryd.f18 gl s18) Tryd.f18 s18 = some S18 := by kernel_rfl
theorem c18 : Contract Tryd.prog gl 18 s18 (S18.run (tabF T0) false) := contract_of A0 Tryd.func18 k18 rfl
def F18 : Fun := S18.run (tabF T0) false
theorem call18 : ∀ args w, (callFunc 18 args).run Tryd.prog w = .ok (.enter 18 args) w := callable_of Tryd.func18 (by kernel_rfl) (by kernel_rfl)
def e18 : Nat × Sum × Fun := (18, s18, F18)
def T5 : List (Nat × Sum × Fun) := e18 :: T4
theorem A5 : AllOk Tryd.prog (tabF T5) gl (tabS T5) := AllOk.cons (s := e18.2.1) c18 call18 (fun S h => by cases h) A4
theorem k29 : tabX Tryd.prog (tabS T0) gl (ctlOf Tryd.f29 gl (tabSum (.i64, per))) Tryd.f29 (.i64, per) = true := by kernel_rfl
theorem c29 : TabContract Tryd.prog gl 29 (.i64, per) := contract_tab A0 Tryd.func29 k29
theorem call29 : ∀ args w, (callFunc 29 args).run Tryd.prog w = .ok (.enter 29 args) w := callable_of Tryd.func29 (by kernel_rfl) (by kernel_rfl)
def s29 : Sum := tabSum (.i64, per)
def F29 : Fun := fun _ _ => ([], [])
def e29 : Nat × Sum × Fun := (29, s29, F29)
def T6 : List (Nat × Sum × Fun) := e29 :: T5
theorem A6 : AllOk Tryd.prog (tabF T6) gl (tabS T6) := AllOk.cons (s := e29.2.1) c29 call29 (fun S h => by cases h) A5
def s15 : Sum := sm [aD] [r1 .u16, rB]
def S15 : Smry := (.mk [(.call 17 [(.v 0), (.v 1), (.v 2), (.v 3), (.v 4), (.v 5), (.v 6), (.v 7), (.v 8), (.v 9)] [(.v 0), (.v 1), (.v 2), (.v 3), (.v 4)] 10 1 5 0), (.db 5 (.cm .neq (.v 10) (.c 0))), (.db 6 (.or (.v 5) (.v 3))), (.db 7 (.cm .eql (.v 5) (.c 0))), (.db 8 (.or (.v 6) (.v 7))), (.db 9 (.not (.v 8))), (.di 11 (.ite (.v 9) (.v 4) (.c 0)))] [(.v 11)] [(.v 9)])
theorem k15 : fnX Tryd.prog (tabS T6) gl (ctlOf Tryd.f15 gl s15) Tryd.f15 s15 = some S15 := by kernel_rfl
theorem c15 : Contract Tryd.prog gl 15 s15 (S15.run (tabF T6) false) := contract_of A6 Tryd.func15 k15 rfl
def F15 : Fun := S15.run (tabF T6) false
theorem call15 : ∀ args w, (callFunc 15 args).run Tryd.prog w = .ok (.enter 15 args) w := callable_of Tryd.func15 (by kernel_rfl) (by kernel_rfl)
def e15 : Nat × Sum × Fun := (15, s15, F15)
def T7 : List (Nat × Sum × Fun) := e15 :: T6
theorem A7 : AllOk Tryd.prog (tabF T7) gl (tabS T7) := AllOk.cons (s := e15.2.1) c15 call15 (fun S h => by cases h) A6
def s16 : Sum := sm [aD] [r1 .u16, rB]
def S16 : Smry := (.mk [(.call 18 [(.v 0), (.v 1), (.v 2), (.v 3), (.v 4), (.v 5), (.v 6), (.v 7), (.v 8), (.v 9)] [(.v 0), (.v 1), (.v 2), (.v 3), (.v 4)] 10 0 5 1), (.db 6 (.not (.v 3))), (.db 7 (.and (.v 5) (.v 6))), (.db 8 (.cm .gtr (.v 5) (.c 0))), (.db 9 (.and (.v 7) (.v 8))), (.db 10 (.not (.v 9))), (.di 10 (.ite (.v 10) (.c 0) (.v 4))), (.db 11 (.ite (.v 10) (.c false) (.c true)))] [(.v 10)] [(.v 11)])
theorem k16 : fnX Tryd.prog (tabS T6) gl (ctlOf Tryd.f16 gl s16) Tryd.f16 s16 = some S16 := by kernel_rfl
theorem c16 : Contract Tryd.prog gl 16 s16 (S16.run (tabF T6) false) := contract_of A6 Tryd.func16 k16 rfl
def F16 : Fun := S16.run (tabF T6) false
theorem call16 : ∀ args w, (callFunc 16 args).run Tryd.prog w = .ok (.enter 16 args) w := callable_of Tryd.func16 (by kernel_rfl) (by kernel_rfl)
def e16 : Nat × Sum × Fun := (16, s16, F16)
def T8 : List (Nat × Sum × Fun) := e16 :: T7
theorem A8 : AllOk Tryd.prog (tabF T8) gl (tabS T8) := AllOk.cons (s := e16.2.1) c16 call16 (fun S h => by cases h) A7
/-- What the functions above answer. -/
def Φ : Funs := tabF T8
def s19 : Sum := sm [aD, aI .i64, aI .u8] [rD]
def S19 : Smry := (.mk [(.call 17 [(.v 0), (.v 1), (.v 2), (.v 3), (.v 4), (.v 5), (.v 6), (.v 7), (.v 8), (.v 9)] [(.v 0), (.v 1), (.v 2), (.v 3), (.v 4)] 12 1 5 0), (.db 5 (.cm .neq (.v 12) (.c 0))), (.db 6 (.cm .eql (.v 10) (.c 0))), (.di 13 (.ar .and .u8 (.v 11) (.c 128))), (.db 7 (.cm .gtr (.v 13) (.c 0))), (.di 14 (.ar .and .u8 (.v 11) (.c 64))), (.db 8 (.cm .gtr (.v 14) (.c 0))), (.di 15 (.ar .and .u8 (.v 11) (.c 15))), (.db 9 (.and (.v 2) (.v 7))), (.db 10 (.cm .eql (.v 10) (.c 1))), (.di 16 (.ar .and .u8 (.v 11) (.c 127))), (.db 11 (.cm .eql (.v 10) (.c 2))), (.di 17 (.cv .u16 (.v 11))), (.di 18 (.ar .mul .u16 (.c 64) (.v 17))), (.di 19 (.ar .add .u16 (.c 49152) (.v 18))), (.db 12 (.cm .eql (.v 10) (.c 3))), (.di 20 (.cv .u16 (.v 11))), (.di 21 (.ar .mul .u16 (.c 16) (.v 20))), (.di 22 (.ar .add .u16 (.v 21) (.c 1))), (.di 23 (.ite (.v 12) (.v 22) (.v 3))), (.di 24 (.ite (.v 11) (.v 19) (.v 2))), (.di 25 (.ite (.v 11) (.v 3) (.v 23))), (.di 26 (.ite (.v 10) (.v 16) (.v 1))), (.di 27 (.ite (.v 10) (.v 2) (.v 24))), (.di 28 (.ite (.v 10) (.v 3) (.v 25))), (.db 13 (.ite (.v 6) (.v 7) (.v 0))), (.db 14 (.ite (.v 6) (.v 8) (.v 1))), (.db 15 (.ite (.v 6) (.v 9) (.v 2))), (.di 29 (.ite (.v 6) (.v 15) (.v 0))), (.di 30 (.ite (.v 6) (.v 1) (.v 26))), (.di 31 (.ite (.v 6) (.v 2) (.v 27))), (.di 32 (.ite (.v 6) (.v 3) (.v 28))), (.db 16 (.not (.v 5))), (.db 17 (.ite (.v 16) (.v 13) (.v 0))), (.db 18 (.ite (.v 16) (.v 14) (.v 1))), (.db 19 (.ite (.v 16) (.v 15) (.v 2))), (.di 33 (.ite (.v 16) (.v 29) (.v 0))), (.di 34 (.ite (.v 16) (.v 30) (.v 1))), (.di 35 (.ite (.v 16) (.v 31) (.v 2))), (.di 36 (.ite (.v 16) (.v 32) (.v 3)))] [(.v 33), (.v 34), (.v 35), (.v 36), (.v 4), (.v 5), (.v 6), (.v 7), (.v 8), (.v 9)] [(.v 17), (.v 18), (.v 19), (.v 3), (.v 4)])
theorem k19 : fnX Tryd.prog (tabS T8) gl (ctlOf Tryd.f19 gl s19) Tryd.f19 s19 = some S19 := by kernel_rfl
theorem c19 : Contract Tryd.prog gl 19 s19 (S19.run (tabF T8) false) := contract_of A8 Tryd.func19 k19 rfl
def F19 : Fun := S19.run (tabF T8) false
theorem call19 : ∀ args w, (callFunc 19 args).run Tryd.prog w = .ok (.enter 19 args) w := callable_of Tryd.func19 (by kernel_rfl) (by kernel_rfl)
def s20 : Sum := sm [aD, aI .i64, aI .u8] [rD]
def S20 : Smry := (.mk [(.call 18 [(.v 0), (.v 1), (.v 2), (.v 3), (.v 4), (.v 5), (.v 6), (.v 7), (.v 8), (.v 9)] [(.v 0), (.v 1), (.v 2), (.v 3), (.v 4)] 12 0 5 1), (.db 6 (.not (.v 5))), (.db 7 (.cm .eql (.v 10) (.c 0))), (.db 8 (.cm .geq (.v 11) (.c 128))), (.di 12 (.ar .quo .u8 (.v 11) (.c 64))), (.di 13 (.ar .rem .u8 (.v 12) (.c 2))), (.db 9 (.cm .eql (.v 13) (.c 1))), (.di 14 (.ar .rem .u8 (.v 11) (.c 16))), (.db 10 (.not (.v 8))), (.db 11 (.ite (.v 10) (.c false) (.v 2))), (.db 12 (.cm .eql (.v 10) (.c 1))), (.di 15 (.ar .rem .u8 (.v 11) (.c 128))), (.db 13 (.cm .eql (.v 10) (.c 2))), (.di 16 (.cv .i64 (.v 11))), (.di 17 (.ar .mul .i64 (.c 64) (.v 16))), (.di 18 (.ar .add .i64 (.c 49152) (.v 17))), (.di 19 (.cv .u16 (.v 18))), (.db 14 (.cm .eql (.v 10) (.c 3))), (.di 20 (.cv .i64 (.v 11))), (.di 21 (.ar .mul .i64 (.c 16) (.v 20))), (.di 22 (.ar .add .i64 (.c 1) (.v 21))), (.di 23 (.cv .u16 (.v 22))), (.di 24 (.ite (.v 14) (.v 23) (.v 3))), (.di 25 (.ite (.v 13) (.v 19) (.v 2))), (.di 26 (.ite (.v 13) (.v 3) (.v 24))), (.di 27 (.ite (.v 12) (.v 15) (.v 1))), (.di 28 (.ite (.v 12) (.v 2) (.v 25))), (.di 29 (.ite (.v 12) (.v 3) (.v 26))), (.db 15 (.ite (.v 7) (.v 8) (.v 0))), (.db 16 (.ite (.v 7) (.v 9) (.v 1))), (.db 17 (.ite (.v 7) (.v 11) (.v 2))), (.di 30 (.ite (.v 7) (.v 14) (.v 0))), (.di 31 (.ite (.v 7) (.v 1) (.v 27))), (.di 32 (.ite (.v 7) (.v 2) (.v 28))), (.di 33 (.ite (.v 7) (.v 3) (.v 29))), (.db 18 (.not (.v 6))), (.db 19 (.ite (.v 18) (.v 15) (.v 0))), (.db 20 (.ite (.v 18) (.v 16) (.v 1))), (.db 21 (.ite (.v 18) (.v 17) (.v 2))), (.di 34 (.ite (.v 18) (.v 30) (.v 0))), (.di 35 (.ite (.v 18) (.v 31) (.v 1))), (.di 36 (.ite (.v 18) (.v 32) (.v 2))), (.di 37 (.ite (.v 18) (.v 33) (.v 3)))] [(.v 34), (.v 35), (.v 36), (.v 37), (.v 4), (.v 5), (.v 6), (.v 7), (.v 8), (.v 9)] [(.v 19), (.v 20), (.v 21), (.v 3), (.v 4)])
theorem k20 : fnX Tryd.prog (tabS T8) gl (ctlOf Tryd.f20 gl s20) Tryd.f20 s20 = some S20 := by kernel_rfl
theorem c20 : Contract Tryd.prog gl 20 s20 (S20.run (tabF T8) false) := contract_of A8 Tryd.func20 k20 rfl
def F20 : Fun := S20.run (tabF T8) false
theorem call20 : ∀ args w, (callFunc 20 args).run Tryd.prog w = .ok (.enter 20 args) w := callable_of Tryd.func20 (by kernel_rfl) (by kernel_rfl)
def s21 : Sum := sm [aD, aB] [rD]
def S21 : Smry := (.mk [(.call 17 [(.v 0), (.v 1), (.v 2), (.v 3), (.v 4), (.v 5), (.v 6), (.v 7), (.v 8), (.v 9)] [(.v 0), (.v 1), (.v 2), (.v 3), (.v 4)] 10 1 6 0), (.db 6 (.cm .neq (.v 10) (.c 0))), (.db 7 (.not (.v 5))), (.db 8 (.cm .eql (.v 5) (.c 0))), (.di 11 (.ite (.v 8) (.v 2) (.v 4))), (.di 12 (.ite (.v 8) (.v 3) (.v 5))), (.di 13 (.ite (.v 7) (.v 4) (.v 11))), (.di 14 (.ite (.v 7) (.c 0) (.v 12))), (.db 9 (.not (.v 6))), (.db 10 (.ite (.v 9) (.c false) (.v 2))), (.di 15 (.ite (.v 9) (.v 13) (.v 4))), (.di 16 (.ite (.v 9) (.v 14) (.v 5)))] [(.v 0), (.v 1), (.v 2), (.v 3), (.v 15), (.v 16), (.v 6), (.v 7), (.v 8), (.v 9)] [(.v 0), (.v 1), (.v 10), (.v 3), (.v 4)])
theorem k21 : fnX Tryd.prog (tabS T8) gl (ctlOf Tryd.f21 gl s21) Tryd.f21 s21 = some S21 := by kernel_rfl
theorem c21 : Contract Tryd.prog gl 21 s21 (S21.run (tabF T8) false) := contract_of A8 Tryd.func21 k21 rfl
def F21 : Fun := S21.run (tabF T8) false
theorem call21 : ∀ args w, (callFunc 21 args).run Tryd.prog w = .ok (.enter 21 args) w := callable_of Tryd.func21 (by kernel_rfl) (by kernel_rfl)
def s22 : Sum := sm [aD, aB] [rD]
def S22 : Smry := (.mk [(.call 18 [(.v 0), (.v 1), (.v 2), (.v 3), (.v 4), (.v 5), (.v 6), (.v 7), (.v 8), (.v 9)] [(.v 0), (.v 1), (.v 2), (.v 3), (.v 4)] 10 0 6 1), (.db 7 (.not (.v 6))), (.db 8 (.cm .eql (.v 5) (.c 0))), (.db 9 (.and (.v 5) (.v 8))), (.di 10 (.ite (.v 9) (.v 2) (.v 4))), (.di 11 (.ite (.v 9) (.v 3) (.v 5))), (.db 10 (.not (.v 5))), (.di 12 (.ite (.v 10) (.c 0) (.v 11))), (.db 11 (.not (.v 7))), (.db 12 (.ite (.v 11) (.c false) (.v 2))), (.di 13 (.ite (.v 11) (.v 10) (.v 4))), (.di 14 (.ite (.v 11) (.v 12) (.v 5)))] [(.v 0), (.v 1), (.v 2), (.v 3), (.v 13), (.v 14), (.v 6), (.v 7), (.v 8), (.v 9)] [(.v 0), (.v 1), (.v 12), (.v 3), (.v 4)])
theorem k22 : fnX Tryd.prog (tabS T8) gl (ctlOf Tryd.f22 gl s22) Tryd.f22 s22 = some S22 := by kernel_rfl
theorem c22 : Contract Tryd.prog gl 22 s22 (S22.run (tabF T8) false) := contract_of A8 Tryd.func22 k22 rfl
def F22 : Fun := S22.run (tabF T8) false
theorem call22 : ∀ args w, (callFunc 22 args).run Tryd.prog w = .ok (.enter 22 args) w := callable_of Tryd.func22 (by kernel_rfl) (by kernel_rfl)
def s23 : Sum := sm [aD, aI .u8] [rD]
def S23 : Smry := (.mk [(.call 15 [(.v 0), (.v 1), (.v 2), (.v 3), (.v 4), (.v 5), (.v 6), (.v 7), (.v 8), (.v 9)] [(.v 0), (.v 1), (.v 2), (.v 3), (.v 4)] 11 1 5 1), (.db 6 (.not (.v 5))), (.di 12 (.ar .add .u16 (.v 4) (.c 1))), (.di 13 (.ar .or .u16 (.v 12) (.c 32768))), (.di 14 (.ar .sub .u16 (.v 5) (.c 1))), (.db 7 (.cm .gtr (.v 14) (.c 0))), (.db 8 (.or (.v 2) (.v 0))), (.db 9 (.ite (.v 1) (.v 2) (.v 8))), (.di 15 (.ite (.v 1) (.v 2) (.v 13))), (.di 16 (.ite (.v 1) (.v 3) (.v 14))), (.db 10 (.not (.v 7))), (.db 11 (.ite (.v 10) (.v 9) (.v 2))), (.di 17 (.ite (.v 10) (.v 15) (.v 13))), (.di 18 (.ite (.v 10) (.v 16) (.v 14))), (.db 12 (.not (.v 6))), (.db 13 (.ite (.v 12) (.v 11) (.v 2))), (.di 19 (.ite (.v 12) (.v 17) (.v 4))), (.di 20 (.ite (.v 12) (.v 18) (.v 5))), (.di 21 (.ite (.v 12) (.v 10) (.v 6))), (.db 14 (.or (.v 12) (.v 3)))] [(.v 0), (.v 1), (.v 2), (.v 3), (.v 19), (.v 20), (.v 21), (.v 7), (.v 8), (.v 9)] [(.v 0), (.v 1), (.v 13), (.v 14), (.v 4)])
theorem k23 : fnX Tryd.prog (tabS T8) gl (ctlOf Tryd.f23 gl s23) Tryd.f23 s23 = some S23 := by kernel_rfl
theorem c23 : Contract Tryd.prog gl 23 s23 (S23.run (tabF T8) false) := contract_of A8 Tryd.func23 k23 rfl
def F23 : Fun := S23.run (tabF T8) false
theorem call23 : ∀ args w, (callFunc 23 args).run Tryd.prog w = .ok (.enter 23 args) w := callable_of Tryd.func23 (by kernel_rfl) (by kernel_rfl)
def s24 : Sum := sm [aD, aI .u8] [rD]
def S24 : Smry := (.mk [(.call 18 [(.v 0), (.v 1), (.v 2), (.v 3), (.v 4), (.v 5), (.v 6), (.v 7), (.v 8), (.v 9)] [(.v 0), (.v 1), (.v 2), (.v 3), (.v 4)] 11 0 5 1), (.db 6 (.not (.v 5))), (.db 7 (.or (.v 6) (.v 3))), (.db 8 (.cm .eql (.v 5) (.c 0))), (.db 9 (.or (.v 7) (.v 8))), (.db 10 (.cm .eql (.v 4) (.c 65535))), (.di 11 (.ar .add .u16 (.v 4) (.c 1))), (.di 12 (.ite (.v 10) (.c 32768) (.v 11))), (.di 13 (.ar .sub .u16 (.v 5) (.c 1))), (.db 11 (.cm .eql (.v 13) (.c 0))), (.db 12 (.or (.v 0) (.v 2))), (.db 13 (.ite (.v 1) (.v 2) (.v 12))), (.di 14 (.ite (.v 1) (.v 2) (.v 12))), (.di 15 (.ite (.v 1) (.v 3) (.v 13))), (.db 14 (.ite (.v 11) (.v 13) (.v 2))), (.di 16 (.ite (.v 11) (.v 14) (.v 12))), (.di 17 (.ite (.v 11) (.v 15) (.v 13))), (.db 15 (.not (.v 9))), (.db 16 (.ite (.v 15) (.v 14) (.v 2))), (.di 18 (.ite (.v 15) (.v 16) (.v 4))), (.di 19 (.ite (.v 15) (.v 17) (.v 5))), (.di 20 (.ite (.v 15) (.v 10) (.v 6))), (.db 17 (.or (.v 15) (.v 3)))] [(.v 0), (.v 1), (.v 2), (.v 3), (.v 18), (.v 19), (.v 20), (.v 7), (.v 8), (.v 9)] [(.v 0), (.v 1), (.v 16), (.v 17), (.v 4)])
theorem k24 : fnX Tryd.prog (tabS T8) gl (ctlOf Tryd.f24 gl s24) Tryd.f24 s24 = some S24 := by kernel_rfl
theorem c24 : Contract Tryd.prog gl 24 s24 (S24.run (tabF T8) false) := contract_of A8 Tryd.func24 k24 rfl
def F24 : Fun := S24.run (tabF T8) false
theorem call24 : ∀ args w, (callFunc 24 args).run Tryd.prog w = .ok (.enter 24 args) w := callable_of Tryd.func24 (by kernel_rfl) (by kernel_rfl)
def s25 : Sum := sm [aD] [rD]
def S25 : Smry := (.mk [(.call 17 [(.v 0), (.v 1), (.v 2), (.v 3), (.v 4), (.v 5), (.v 6), (.v 7), (.v 8), (.v 9)] [(.v 0), (.v 1), (.v 2), (.v 3), (.v 4)] 10 1 5 0), (.db 5 (.cm .neq (.v 10) (.c 0))), (.db 6 (.cm .gtr (.v 9) (.c 0))), (.di 11 (.ar .sub .u16 (.v 9) (.c 1))), (.db 7 (.cm .geq (.v 0) (.c 0))), (.ob [((.v 5), false), ((.v 6), false)] (.v 7)), (.db 8 (.cm .lss (.v 0) (.c 16))), (.ob [((.v 5), false), ((.v 6), false)] (.v 8)), (.di 12 (.tab [428, 380, 340, 320, 286, 254, 226, 214, 190, 160, 142, 128, 106, 84, 72, 54] (.v 0))), (.di 13 (.ar .sub .u16 (.v 12) (.c 1))), (.db 9 (.not (.v 4))), (.di 14 (.ar .and .u8 (.v 7) (.c 1))), (.db 10 (.cm .gtr (.v 14) (.c 0))), (.db 11 (.cm .leq (.v 1) (.c 125))), (.db 12 (.and (.v 10) (.v 11))), (.di 15 (.ar .add .u8 (.v 1) (.c 2))), (.db 13 (.not (.v 10))), (.db 14 (.cm .geq (.v 1) (.c 2))), (.db 15 (.and (.v 13) (.v 14))), (.di 16 (.ar .sub .u8 (.v 1) (.c 2))), (.di 17 (.ite (.v 15) (.v 16) (.v 1))), (.di 18 (.ite (.v 12) (.v 15) (.v 17))), (.di 19 (.ite (.v 9) (.v 18) (.v 1))), (.di 20 (.ar .shr .u8 (.v 7) (.c 1))), (.di 21 (.ar .sub .u8 (.v 8) (.c 1))), (.db 16 (.cm .gtr (.v 21) (.c 0))), (.db 17 (.not (.v 3))), (.db 18 (.ite (.v 3) (.c false) (.v 3))), (.di 22 (.ite (.v 3) (.v 6) (.v 20))), (.db 19 (.not (.v 16))), (.db 20 (.ite (.v 19) (.v 18) (.v 3))), (.di 23 (.ite (.v 19) (.v 22) (.v 20))), (.di 24 (.ite (.v 19) (.c 8) (.v 21))), (.db 21 (.ite (.v 19) (.v 17) (.v 4))), (.db 22 (.not (.v 6))), (.di 25 (.ite (.v 22) (.v 19) (.v 1))), (.db 23 (.ite (.v 22) (.v 20) (.v 3))), (.di 26 (.ite (.v 22) (.v 23) (.v 7))), (.di 27 (.ite (.v 22) (.v 24) (.v 8))), (.db 24 (.ite (.v 22) (.v 21) (.v 4))), (.di 28 (.ite (.v 22) (.v 13) (.v 11))), (.db 25 (.not (.v 5))), (.di 29 (.ite (.v 25) (.v 25) (.v 1))), (.db 26 (.ite (.v 25) (.v 23) (.v 3))), (.di 30 (.ite (.v 25) (.v 26) (.v 7))), (.di 31 (.ite (.v 25) (.v 27) (.v 8))), (.db 27 (.ite (.v 25) (.v 24) (.v 4))), (.di 32 (.ite (.v 25) (.v 28) (.v 9)))] [(.v 0), (.v 29), (.v 2), (.v 3), (.v 4), (.v 5), (.v 6), (.v 30), (.v 31), (.v 32)] [(.v 0), (.v 1), (.v 2), (.v 26), (.v 27)])
theorem k25 : fnX Tryd.prog (tabS T8) gl (ctlOf Tryd.f25 gl s25) Tryd.f25 s25 = some S25 := by kernel_rfl
def F25 : Fun := S25.run (tabF T8) false
theorem call25 : ∀ args w, (callFunc 25 args).run Tryd.prog w = .ok (.enter 25 args) w := callable_of Tryd.func25 (by kernel_rfl) (by kernel_rfl)
def s26 : Sum := sm [aD] [rD]
def S26 : Smry := (.mk [(.call 18 [(.v 0), (.v 1), (.v 2), (.v 3), (.v 4), (.v 5), (.v 6), (.v 7), (.v 8), (.v 9)] [(.v 0), (.v 1), (.v 2), (.v 3), (.v 4)] 10 0 5 1), (.db 6 (.not (.v 5))), (.db 7 (.cm .neq (.v 9) (.c 0))), (.di 10 (.ar .sub .u16 (.v 9) (.c 1))), (.db 8 (.cm .geq (.v 0) (.c 0))), (.ob [((.v 6), false), ((.v 7), false)] (.v 8)), (.db 9 (.cm .lss (.v 0) (.c 16))), (.ob [((.v 6), false), ((.v 7), false)] (.v 9)), (.di 11 (.tab [428, 380, 340, 320, 286, 254, 226, 214, 190, 160, 142, 128, 106, 84, 72, 54] (.v 0))), (.di 12 (.ar .sub .i64 (.v 11) (.c 1))), (.di 13 (.cv .u16 (.v 12))), (.db 10 (.not (.v 4))), (.di 14 (.ar .rem .u8 (.v 7) (.c 2))), (.db 11 (.cm .eql (.v 14) (.c 1))), (.db 12 (.cm .leq (.v 1) (.c 125))), (.db 13 (.and (.v 11) (.v 12))), (.di 15 (.ar .add .u8 (.v 1) (.c 2))), (.di 16 (.ar .rem .u8 (.v 7) (.c 2))), (.db 14 (.cm .eql (.v 16) (.c 0))), (.db 15 (.cm .geq (.v 1) (.c 2))), (.db 16 (.and (.v 14) (.v 15))), (.di 17 (.ar .sub .u8 (.v 1) (.c 2))), (.di 18 (.ite (.v 16) (.v 17) (.v 1))), (.di 19 (.ite (.v 13) (.v 15) (.v 18))), (.di 20 (.ite (.v 10) (.v 19) (.v 1))), (.di 21 (.ar .quo .u8 (.v 7) (.c 2))), (.di 22 (.ar .sub .u8 (.v 8) (.c 1))), (.db 17 (.cm .eql (.v 22) (.c 0))), (.db 18 (.not (.v 3))), (.db 19 (.ite (.v 3) (.c false) (.v 3))), (.di 23 (.ite (.v 3) (.v 6) (.v 21))), (.db 20 (.ite (.v 17) (.v 19) (.v 3))), (.di 24 (.ite (.v 17) (.v 23) (.v 21))), (.di 25 (.ite (.v 17) (.c 8) (.v 22))), (.db 21 (.ite (.v 17) (.v 18) (.v 4))), (.db 22 (.not (.v 7))), (.di 26 (.ite (.v 22) (.v 20) (.v 1))), (.db 23 (.ite (.v 22) (.v 20) (.v 3))), (.di 27 (.ite (.v 22) (.v 24) (.v 7))), (.di 28 (.ite (.v 22) (.v 25) (.v 8))), (.db 24 (.ite (.v 22) (.v 21) (.v 4))), (.di 29 (.ite (.v 22) (.v 13) (.v 10))), (.db 25 (.not (.v 6))), (.di 30 (.ite (.v 25) (.v 26) (.v 1))), (.db 26 (.ite (.v 25) (.v 23) (.v 3))), (.di 31 (.ite (.v 25) (.v 27) (.v 7))), (.di 32 (.ite (.v 25) (.v 28) (.v 8))), (.db 27 (.ite (.v 25) (.v 24) (.v 4))), (.di 33 (.ite (.v 25) (.v 29) (.v 9)))] [(.v 0), (.v 30), (.v 2), (.v 3), (.v 4), (.v 5), (.v 6), (.v 31), (.v 32), (.v 33)] [(.v 0), (.v 1), (.v 2), (.v 26), (.v 27)])
theorem k26 : fnX Tryd.prog (tabS T8) gl (ctlOf Tryd.f26 gl s26) Tryd.f26 s26 = some S26 := by kernel_rfl
def F26 : Fun := S26.run (tabF T8) false
theorem call26 : ∀ args w, (callFunc 26 args).run Tryd.prog w = .ok (.enter 26 args) w := callable_of Tryd.func26 (by kernel_rfl) (by kernel_rfl)
end Go.Proofs.YtoempcgniokpiaaDoor.Dm
