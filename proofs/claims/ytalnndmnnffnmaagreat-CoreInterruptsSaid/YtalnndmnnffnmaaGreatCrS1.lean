/-
  The walks of core's laws: what each function answers, by the executor (part 1). WRITTEN BY PROGRAM (wip/dev/Drv3.lean). No condition.
-/
import Derived.Test.YtalnndmnnffnmaaGreatCrD
import Derived.Test.YtalnndmnnffnmaaGreatSxU
set_option linter.unusedVariables false
set_option linter.unusedSimpArgs false
namespace Go.Proofs.YtalnndmnnffnmaaGreat.Cr
open Go Go.Proofs Go.Proofs.YtalnndmnnffnmaaGreat.Sx
variable {m : Int}

def inl : List Nat := [104, 65, 125, 126, 64, 61, 29, 30, 31, 33, 48, 92, 120]
theorem inl_ok : nameOk Tryz.prog inl = true := by kernel_rfl
noncomputable def T0 : List (Nat × Sum × Fun) := []
theorem A0 : AllOk Tryz.prog (tabF T0) (gl m) (tabS T0) := AllOk.nil
noncomputable def e25 : Nat × Sum × Fun := (25, s25, F25)
noncomputable def T1 : List (Nat × Sum × Fun) := e25 :: T0
theorem A1 : AllOk Tryz.prog (tabF T1) (gl m) (tabS T1) := AllOk.cons (s := e25.2.1) c25 call25 (fun S h => by cases h) A0
/-! seepage/alu.Check -/
def s37 : Sum := { args := [(.val true [(.int .u8), (.int .u8)])], tup := false, res := [(true, [(.int .u8), (.int .u8)])], pre := false }
def S37 : Smry := (.mk [(.di 2 (.ar .and .u8 (.v 0) (.c 207))), (.di 3 (.ar .and .u8 (.v 1) (.c 207)))] [(.v 2), (.v 3)] [])
theorem k37 : fnX Tryz.prog (hnd Tryz.prog (gl m) inl (tabS T1)) (gl m) (ctlOf Tryz.f37 (gl m) s37) Tryz.f37 s37 = some S37 := by kernel_rfl
noncomputable def F37 : Fun := S37.run (tabF T1) false
theorem x37 : AllOk Tryz.prog (tabF T1) (gl m) (tabS T1) := A1
theorem y37 : LoopsOk (tabF T1) (ctlOf Tryz.f37 (gl m) s37) := (LoopsOk.nil rfl)
theorem z37 : (wsEm S37.em (argI s37.args) (argB s37.args) && shOk s37 && noOb S37.em) = true := by kernel_rfl
theorem d37 : Contract Tryz.prog (gl m) 37 s37 (S37.run (tabF T1) s37.pre) := contract_of (hnd_ok x37 inl_ok) Tryz.func37 y37 k37 z37
theorem c37 : Contract Tryz.prog (gl m) 37 s37 F37 := d37
theorem call37 : ∀ args w, (callFunc 37 args).run Tryz.prog w = .ok (.enter 37 args) w := callable_of Tryz.func37 (by kernel_rfl) (by kernel_rfl)
noncomputable def e37 : Nat × Sum × Fun := (37, withInl s37 S37, F37)
noncomputable def T2 : List (Nat × Sum × Fun) := e37 :: T1
theorem A2 : AllOk Tryz.prog (tabF T2) (gl m) (tabS T2) := AllOk.cons (s := e37.2.1) c37 call37 (fun S h => by cases h; exact ⟨rfl, fun _ _ => rfl⟩) A1
/-! seepage/core.Check -/
def s15 : Sum := { args := [(.val true [(.int .u8), .bool, (.int .u8), .bool, (.int .u8), .bool, (.int .u8), .bool, (.int .u8), (.int .u8), (.int .u16), .bool, (.int .u8), (.int .i64), (.int .u16), .bool, (.int .u8), .bool, .bool, (.int .i64), .bool, .bool, (.int .i64), .bool, .bool])], tup := false, res := [(false, [(.int .i64)])], pre := false }
def S15 : Smry := (.mk [(.call 25 [(.v 7)] [] 13 4 12 2), (.db 14 (.cm .eql (.v 14) (.c 11))), (.di 17 (.ar .add .i64 (.v 16) (.c 2))), (.di 18 (.ar .add .i64 (.v 16) (.c 1))), (.db 15 (.cm .eql (.v 14) (.c 20))), (.di 19 (.ite (.v 15) (.c 2) (.v 16))), (.di 20 (.ite (.v 12) (.v 18) (.v 19))), (.di 21 (.ite (.v 14) (.v 17) (.v 20))), (.db 16 (.cm .lss (.v 8) (.c 0))), (.db 17 (.cm .gtr (.v 8) (.c 0))), (.db 18 (.cm .geq (.v 8) (.v 21))), (.db 19 (.and (.v 17) (.v 18))), (.db 20 (.or (.v 16) (.v 19))), (.db 21 (.cm .lss (.v 11) (.c 0))), (.db 22 (.or (.v 20) (.v 21))), (.db 23 (.cm .gtr (.v 11) (.c 3))), (.db 24 (.or (.v 22) (.v 23))), (.db 25 (.cm .lss (.v 12) (.c 0))), (.db 26 (.or (.v 24) (.v 25))), (.db 27 (.cm .gtr (.v 12) (.c 2))), (.db 28 (.or (.v 26) (.v 27))), (.di 22 (.ar .and .u8 (.v 4) (.c 207))), (.di 23 (.ar .and .u8 (.v 5) (.c 207))), (.db 29 (.cm .eql (.v 22) (.v 4))), (.db 30 (.cm .eql (.v 23) (.v 5))), (.db 31 (.and (.v 29) (.v 30))), (.db 32 (.not (.v 31))), (.db 33 (.or (.v 28) (.v 32))), (.db 34 (.not (.v 33))), (.di 24 (.ite (.v 34) (.c 0) (.c 1)))] [(.v 24)] [])
theorem k15 : fnX Tryz.prog (hnd Tryz.prog (gl m) inl (tabS T2)) (gl m) (ctlOf Tryz.f15 (gl m) s15) Tryz.f15 s15 = some S15 := by kernel_rfl
noncomputable def F15 : Fun := S15.run (tabF T2) false
theorem x15 : AllOk Tryz.prog (tabF T2) (gl m) (tabS T2) := A2
theorem y15 : LoopsOk (tabF T2) (ctlOf Tryz.f15 (gl m) s15) := (LoopsOk.nil rfl)
theorem z15 : (wsEm S15.em (argI s15.args) (argB s15.args) && shOk s15 && noOb S15.em) = true := by kernel_rfl
theorem d15 : Contract Tryz.prog (gl m) 15 s15 (S15.run (tabF T2) s15.pre) := contract_of (hnd_ok x15 inl_ok) Tryz.func15 y15 k15 z15
theorem c15 : Contract Tryz.prog (gl m) 15 s15 F15 := d15
theorem call15 : ∀ args w, (callFunc 15 args).run Tryz.prog w = .ok (.enter 15 args) w := callable_of Tryz.func15 (by kernel_rfl) (by kernel_rfl)
noncomputable def e15 : Nat × Sum × Fun := (15, s15, F15)
noncomputable def T3 : List (Nat × Sum × Fun) := e15 :: T2
theorem A3 : AllOk Tryz.prog (tabF T3) (gl m) (tabS T3) := AllOk.cons (s := e15.2.1) c15 call15 (fun S h => by cases h) A2
/-! seepage/core.New -/
def s23 : Sum := { args := [], tup := false, res := [(true, [(.int .u8), .bool, (.int .u8), .bool, (.int .u8), .bool, (.int .u8), .bool, (.int .u8), (.int .u8), (.int .u16), .bool, (.int .u8), (.int .i64), (.int .u16), .bool, (.int .u8), .bool, .bool, (.int .i64), .bool, .bool, (.int .i64), .bool, .bool])], pre := false }
def S23 : Smry := (.mk [] [(.c 0), (.c 0), (.c 0), (.c 0), (.c 4), (.c 0), (.c 0), (.c 0), (.c 0), (.c 0), (.c 0), (.c 3), (.c 0)] [(.c false), (.c false), (.c false), (.c false), (.c false), (.c false), (.c false), (.c false), (.c false), (.c false), (.c false), (.c false)])
theorem k23 : fnX Tryz.prog (hnd Tryz.prog (gl m) inl (tabS T3)) (gl m) (ctlOf Tryz.f23 (gl m) s23) Tryz.f23 s23 = some S23 := by kernel_rfl
noncomputable def F23 : Fun := S23.run (tabF T3) false
theorem x23 : AllOk Tryz.prog (tabF T3) (gl m) (tabS T3) := A3
theorem y23 : LoopsOk (tabF T3) (ctlOf Tryz.f23 (gl m) s23) := (LoopsOk.nil rfl)
theorem z23 : (wsEm S23.em (argI s23.args) (argB s23.args) && shOk s23 && noOb S23.em) = true := by kernel_rfl
theorem d23 : Contract Tryz.prog (gl m) 23 s23 (S23.run (tabF T3) s23.pre) := contract_of (hnd_ok x23 inl_ok) Tryz.func23 y23 k23 z23
theorem c23 : Contract Tryz.prog (gl m) 23 s23 F23 := d23
theorem call23 : ∀ args w, (callFunc 23 args).run Tryz.prog w = .ok (.enter 23 args) w := callable_of Tryz.func23 (by kernel_rfl) (by kernel_rfl)
noncomputable def e23 : Nat × Sum × Fun := (23, s23, F23)
noncomputable def T4 : List (Nat × Sum × Fun) := e23 :: T3
theorem A4 : AllOk Tryz.prog (tabF T4) (gl m) (tabS T4) := AllOk.cons (s := e23.2.1) c23 call23 (fun S h => by cases h) A3
/-! seepage/label.Split -/
def s57 : Sum := { args := [(.val false [(.int .u16)]), (.val false [.bool])], tup := true, res := [(true, [(.int .u8), .bool]), (true, [(.int .u8), .bool])], pre := false }
def S57 : Smry := (.mk [(.di 1 (.cv .u8 (.v 0))), (.di 2 (.ar .shr .u16 (.v 0) (.c 8))), (.di 3 (.cv .u8 (.v 2)))] [(.v 1), (.v 3)] [(.v 0), (.v 0)])
theorem k57 : fnX Tryz.prog (hnd Tryz.prog (gl m) inl (tabS T4)) (gl m) (ctlOf Tryz.f57 (gl m) s57) Tryz.f57 s57 = some S57 := by kernel_rfl
noncomputable def F57 : Fun := S57.run (tabF T4) false
theorem x57 : AllOk Tryz.prog (tabF T4) (gl m) (tabS T4) := A4
theorem y57 : LoopsOk (tabF T4) (ctlOf Tryz.f57 (gl m) s57) := (LoopsOk.nil rfl)
theorem z57 : (wsEm S57.em (argI s57.args) (argB s57.args) && shOk s57 && noOb S57.em) = true := by kernel_rfl
theorem d57 : Contract Tryz.prog (gl m) 57 s57 (S57.run (tabF T4) s57.pre) := contract_of (hnd_ok x57 inl_ok) Tryz.func57 y57 k57 z57
theorem c57 : Contract Tryz.prog (gl m) 57 s57 F57 := d57
theorem call57 : ∀ args w, (callFunc 57 args).run Tryz.prog w = .ok (.enter 57 args) w := callable_of Tryz.func57 (by kernel_rfl) (by kernel_rfl)
noncomputable def e57 : Nat × Sum × Fun := (57, withInl s57 S57, F57)
noncomputable def T5 : List (Nat × Sum × Fun) := e57 :: T4
theorem A5 : AllOk Tryz.prog (tabF T5) (gl m) (tabS T5) := AllOk.cons (s := e57.2.1) c57 call57 (fun S h => by cases h; exact ⟨rfl, fun _ _ => rfl⟩) A4
/-! (*seepage/core.work).push -/
def s32 : Sum := { args := [(.ptr [(.int .u8), .bool, (.int .u8), .bool, (.int .u8), .bool, (.int .u8), .bool, (.int .u8), (.int .u8), (.int .u16), .bool, (.int .u8), (.int .i64), (.int .u16), .bool, (.int .u8), .bool, .bool, (.int .i64), .bool, .bool, (.int .i64), .bool, .bool, .str, (.int .i64), (.int .i64), (.int .i64), .bool, .bool]), (.val true [(.int .u8), .bool])], tup := false, res := [(true, [(.int .u16), .bool, (.int .u8), .bool, .bool])], pre := false }
def S32 : Smry := (.mk [(.di 18 (.cv .u16 (.v 3))), (.di 19 (.ar .add .u16 (.c 256) (.v 18)))] [(.v 19), (.v 17), (.v 0), (.v 1), (.v 2), (.v 3), (.v 4), (.v 5), (.v 6), (.v 7), (.v 8), (.v 9), (.v 10), (.v 11), (.v 12), (.v 13), (.v 14), (.v 15), (.v 16)] [(.c true), (.v 14), (.v 3), (.v 0), (.v 1), (.v 2), (.v 3), (.v 4), (.v 5), (.v 6), (.v 7), (.v 8), (.v 9), (.v 10), (.v 11), (.v 12), (.v 13)])
theorem k32 : fnX Tryz.prog (hnd Tryz.prog (gl m) inl (tabS T5)) (gl m) (ctlOf Tryz.f32 (gl m) s32) Tryz.f32 s32 = some S32 := by kernel_rfl
noncomputable def F32 : Fun := S32.run (tabF T5) false
theorem x32 : AllOk Tryz.prog (tabF T5) (gl m) (tabS T5) := A5
theorem y32 : LoopsOk (tabF T5) (ctlOf Tryz.f32 (gl m) s32) := (LoopsOk.nil rfl)
theorem z32 : (wsEm S32.em (argI s32.args) (argB s32.args) && shOk s32 && noOb S32.em) = true := by kernel_rfl
theorem d32 : Contract Tryz.prog (gl m) 32 s32 (S32.run (tabF T5) s32.pre) := contract_of (hnd_ok x32 inl_ok) Tryz.func32 y32 k32 z32
theorem c32 : Contract Tryz.prog (gl m) 32 s32 F32 := d32
theorem call32 : ∀ args w, (callFunc 32 args).run Tryz.prog w = .ok (.enter 32 args) w := callable_of Tryz.func32 (by kernel_rfl) (by kernel_rfl)
noncomputable def e32 : Nat × Sum × Fun := (32, withInl s32 S32, F32)
noncomputable def T6 : List (Nat × Sum × Fun) := e32 :: T5
theorem A6 : AllOk Tryz.prog (tabF T6) (gl m) (tabS T6) := AllOk.cons (s := e32.2.1) c32 call32 (fun S h => by cases h; exact ⟨rfl, fun _ _ => rfl⟩) A5
/-! seepage/alu.Push -/
def s58 : Sum := { args := [(.val true [(.int .u8), (.int .u8)]), (.val false [.bool])], tup := false, res := [(true, [(.int .u8), .bool])], pre := false }
def S58 : Smry := (.mk [(.di 2 (.ar .and .u8 (.v 0) (.c 207))), (.di 3 (.ar .and .u8 (.v 1) (.c 207))), (.di 4 (.ar .or .u8 (.v 2) (.c 32))), (.db 1 (.cm .gtr (.v 3) (.c 0))), (.di 5 (.ar .or .u8 (.v 4) (.c 16))), (.di 6 (.ite (.v 0) (.v 5) (.v 4)))] [(.v 6)] [(.v 1)])
theorem k58 : fnX Tryz.prog (hnd Tryz.prog (gl m) inl (tabS T6)) (gl m) (ctlOf Tryz.f58 (gl m) s58) Tryz.f58 s58 = some S58 := by kernel_rfl
noncomputable def F58 : Fun := S58.run (tabF T6) false
theorem x58 : AllOk Tryz.prog (tabF T6) (gl m) (tabS T6) := A6
theorem y58 : LoopsOk (tabF T6) (ctlOf Tryz.f58 (gl m) s58) := (LoopsOk.nil rfl)
theorem z58 : (wsEm S58.em (argI s58.args) (argB s58.args) && shOk s58 && noOb S58.em) = true := by kernel_rfl
theorem d58 : Contract Tryz.prog (gl m) 58 s58 (S58.run (tabF T6) s58.pre) := contract_of (hnd_ok x58 inl_ok) Tryz.func58 y58 k58 z58
theorem c58 : Contract Tryz.prog (gl m) 58 s58 F58 := d58
theorem call58 : ∀ args w, (callFunc 58 args).run Tryz.prog w = .ok (.enter 58 args) w := callable_of Tryz.func58 (by kernel_rfl) (by kernel_rfl)
noncomputable def e58 : Nat × Sum × Fun := (58, withInl s58 S58, F58)
noncomputable def T7 : List (Nat × Sum × Fun) := e58 :: T6
theorem A7 : AllOk Tryz.prog (tabF T7) (gl m) (tabS T7) := AllOk.cons (s := e58.2.1) c58 call58 (fun S h => by cases h; exact ⟨rfl, fun _ _ => rfl⟩) A6
/-! (*seepage/core.work).pushed -/
def s34 : Sum := { args := [(.ptr [(.int .u8), .bool, (.int .u8), .bool, (.int .u8), .bool, (.int .u8), .bool, (.int .u8), (.int .u8), (.int .u16), .bool, (.int .u8), (.int .i64), (.int .u16), .bool, (.int .u8), .bool, .bool, (.int .i64), .bool, .bool, (.int .i64), .bool, .bool, .str, (.int .i64), (.int .i64), (.int .i64), .bool, .bool])], tup := false, res := [(true, [(.int .u8), .bool])], pre := false }
def S34 : Smry := (.mk [(.db 14 (.cm .eql (.v 13) (.c 190536410541747572716161940294993060653600960856081490745673670328770095805227685313574673788367647727711789876536065982517204403585361641472))), (.di 17 (.ar .and .u8 (.v 4) (.c 207))), (.di 18 (.ar .and .u8 (.v 5) (.c 207))), (.di 19 (.ar .or .u8 (.v 17) (.c 32))), (.db 15 (.cm .gtr (.v 18) (.c 0))), (.di 20 (.ar .or .u8 (.v 19) (.c 16))), (.db 16 (.not (.v 14))), (.di 21 (.ite (.v 16) (.v 0) (.v 20))), (.db 17 (.ite (.v 16) (.v 0) (.v 15)))] [(.v 21), (.v 0), (.v 1), (.v 2), (.v 3), (.v 4), (.v 5), (.v 6), (.v 7), (.v 8), (.v 9), (.v 10), (.v 11), (.v 12), (.v 13), (.v 14), (.v 15), (.v 16)] [(.v 17), (.v 0), (.v 1), (.v 2), (.v 3), (.v 4), (.v 5), (.v 6), (.v 7), (.v 8), (.v 9), (.v 10), (.v 11), (.v 12), (.v 13)])
theorem k34 : fnX Tryz.prog (hnd Tryz.prog (gl m) inl (tabS T7)) (gl m) (ctlOf Tryz.f34 (gl m) s34) Tryz.f34 s34 = some S34 := by kernel_rfl
noncomputable def F34 : Fun := S34.run (tabF T7) false
theorem x34 : AllOk Tryz.prog (tabF T7) (gl m) (tabS T7) := A7
theorem y34 : LoopsOk (tabF T7) (ctlOf Tryz.f34 (gl m) s34) := (LoopsOk.nil rfl)
theorem z34 : (wsEm S34.em (argI s34.args) (argB s34.args) && shOk s34 && noOb S34.em) = true := by kernel_rfl
theorem d34 : Contract Tryz.prog (gl m) 34 s34 (S34.run (tabF T7) s34.pre) := contract_of (hnd_ok x34 inl_ok) Tryz.func34 y34 k34 z34
theorem c34 : Contract Tryz.prog (gl m) 34 s34 F34 := d34
theorem call34 : ∀ args w, (callFunc 34 args).run Tryz.prog w = .ok (.enter 34 args) w := callable_of Tryz.func34 (by kernel_rfl) (by kernel_rfl)
noncomputable def e34 : Nat × Sum × Fun := (34, withInl s34 S34, F34)
noncomputable def T8 : List (Nat × Sum × Fun) := e34 :: T7
theorem A8 : AllOk Tryz.prog (tabF T8) (gl m) (tabS T8) := AllOk.cons (s := e34.2.1) c34 call34 (fun S h => by cases h; exact ⟨rfl, fun _ _ => rfl⟩) A7
/-! (*seepage/core.work).broken -/
def s35 : Sum := { args := [(.ptr [(.int .u8), .bool, (.int .u8), .bool, (.int .u8), .bool, (.int .u8), .bool, (.int .u8), (.int .u8), (.int .u16), .bool, (.int .u8), (.int .i64), (.int .u16), .bool, (.int .u8), .bool, .bool, (.int .i64), .bool, .bool, (.int .i64), .bool, .bool, .str, (.int .i64), (.int .i64), (.int .i64), .bool, .bool])], tup := false, res := [(true, [(.int .u16), .bool, (.int .u8), .bool, .bool])], pre := true }
def S35 : Smry := (.mk [(.db 14 (.cm .eql (.v 11) (.c 2))), (.db 15 (.cm .eql (.v 11) (.c 3))), (.di 17 (.ite (.v 15) (.c 65532) (.c 65534))), (.di 18 (.ite (.v 14) (.c 65530) (.v 17))), (.db 16 (.cm .eql (.v 8) (.c 1))), (.db 17 (.cm .eql (.v 8) (.c 5))), (.db 18 (.cm .eql (.v 8) (.c 6))), (.di 19 (.ar .add .u16 (.v 18) (.c 1))), (.db 19 (.or (.v 17) (.v 18))), (.di 20 (.ite (.v 17) (.v 18) (.v 19))), (.db 20 (.or (.v 16) (.v 19))), (.di 21 (.ite (.v 16) (.v 6) (.v 20))), (.db 21 (.and (.v 16) (.v 4))), (.db 22 (.cm .eql (.v 11) (.c 3))), (.di 22 (.cv .u16 (.v 3))), (.di 23 (.ar .add .u16 (.c 256) (.v 22))), (.di 24 (.cv .u8 (.v 6))), (.di 25 (.ar .shr .u16 (.v 6) (.c 8))), (.di 26 (.cv .u8 (.v 25))), (.di 27 (.cv .u8 (.v 6))), (.di 28 (.ar .shr .u16 (.v 6) (.c 8))), (.di 29 (.cv .u8 (.v 28))), (.db 23 (.cm .eql (.v 11) (.c 0))), (.di 30 (.ar .and .u8 (.v 4) (.c 207))), (.di 31 (.ar .and .u8 (.v 5) (.c 207))), (.di 32 (.ar .or .u8 (.v 30) (.c 32))), (.db 24 (.cm .gtr (.v 31) (.c 0))), (.di 33 (.ar .or .u8 (.v 32) (.c 16))), (.di 34 (.ite (.v 23) (.v 33) (.v 32))), (.di 35 (.ar .sub .i64 (.v 8) (.c 2))), (.db 25 (.cm .geq (.v 35) (.c 0))), (.ob [((.v 16), false), ((.v 17), false), ((.v 18), false), ((.v 22), false)] (.v 25)), (.db 26 (.cm .lss (.v 35) (.c 3))), (.ob [((.v 16), false), ((.v 17), false), ((.v 18), false), ((.v 22), false)] (.v 26)), (.db 27 (.cm .eql (.v 35) (.c 0))), (.db 28 (.cm .eql (.v 35) (.c 1))), (.di 36 (.ite (.v 28) (.v 27) (.v 34))), (.db 29 (.ite (.v 28) (.v 4) (.v 24))), (.di 37 (.ite (.v 27) (.v 26) (.v 36))), (.db 30 (.ite (.v 27) (.v 4) (.v 29))), (.di 38 (.cv .u16 (.v 3))), (.di 39 (.ar .add .u16 (.c 256) (.v 38))), (.db 31 (.not (.v 22))), (.di 40 (.ite (.v 31) (.v 39) (.v 23))), (.di 41 (.ite (.v 31) (.v 37) (.c 0))), (.db 32 (.and (.v 31) (.v 30))), (.db 33 (.not (.v 16))), (.db 34 (.not (.v 17))), (.db 35 (.not (.v 18))), (.db 36 (.and (.v 34) (.v 35))), (.db 37 (.and (.v 33) (.v 36))), (.di 42 (.ite (.v 37) (.v 40) (.v 21))), (.db 38 (.and (.v 37) (.v 31))), (.di 43 (.ite (.v 37) (.v 41) (.c 0))), (.db 39 (.and (.v 37) (.v 32))), (.db 40 (.ite (.v 37) (.v 3) (.v 21)))] [(.v 42), (.v 43), (.v 0), (.v 1), (.v 2), (.v 3), (.v 4), (.v 5), (.v 6), (.v 7), (.v 8), (.v 9), (.v 10), (.v 11), (.v 12), (.v 13), (.v 14), (.v 15), (.v 16)] [(.v 38), (.v 39), (.v 40), (.v 0), (.v 1), (.v 2), (.v 3), (.v 4), (.v 5), (.v 6), (.v 7), (.v 8), (.v 9), (.v 10), (.v 11), (.v 12), (.v 13)])
theorem k35 : fnX Tryz.prog (hnd Tryz.prog (gl m) inl (tabS T8)) (gl m) (ctlOf Tryz.f35 (gl m) s35) Tryz.f35 s35 = some S35 := by kernel_rfl
noncomputable def F35 : Fun := S35.run (tabF T8) true
theorem x35 : AllOk Tryz.prog (tabF T8) (gl m) (tabS T8) := A8
theorem y35 : LoopsOk (tabF T8) (ctlOf Tryz.f35 (gl m) s35) := (LoopsOk.nil rfl)
theorem z35 : (wsEm S35.em (argI s35.args) (argB s35.args) && shOk s35 && s35.pre) = true := by kernel_rfl
theorem d35 : Contract Tryz.prog (gl m) 35 s35 (S35.run (tabF T8) s35.pre) := contract_pre (hnd_ok x35 inl_ok) Tryz.func35 y35 k35 z35
theorem c35 : Contract Tryz.prog (gl m) 35 s35 F35 := d35
theorem call35 : ∀ args w, (callFunc 35 args).run Tryz.prog w = .ok (.enter 35 args) w := callable_of Tryz.func35 (by kernel_rfl) (by kernel_rfl)
noncomputable def e35 : Nat × Sum × Fun := (35, s35, F35)
noncomputable def T9 : List (Nat × Sum × Fun) := e35 :: T8
theorem A9 : AllOk Tryz.prog (tabF T9) (gl m) (tabS T9) := AllOk.cons (s := e35.2.1) c35 call35 (fun S h => by cases h) A8
/-! (*seepage/core.work).first -/
def s59 : Sum := { args := [(.ptr [(.int .u8), .bool, (.int .u8), .bool, (.int .u8), .bool, (.int .u8), .bool, (.int .u8), (.int .u8), (.int .u16), .bool, (.int .u8), (.int .i64), (.int .u16), .bool, (.int .u8), .bool, .bool, (.int .i64), .bool, .bool, (.int .i64), .bool, .bool, .str, (.int .i64), (.int .i64), (.int .i64), .bool, .bool])], tup := true, res := [(false, [(.int .i64)]), (false, [.bool])], pre := true }
def S59 : Smry := (.mk [(.db 14 (.cm .geq (.v 14) (.c 0))), (.ob [] (.v 14)), (.db 15 (.cm .lss (.v 14) (.c 11))), (.ob [] (.v 15)), (.di 17 (.tab [0, 0, 0, 2, 3, 3, 3, 3, 3, 5, 4] (.v 14))), (.db 16 (.cm .eql (.v 14) (.c 7))), (.db 17 (.cm .eql (.v 14) (.c 8))), (.db 18 (.or (.v 16) (.v 17))), (.db 19 (.cm .eql (.v 14) (.c 10))), (.db 20 (.or (.v 18) (.v 19))), (.db 21 (.cm .neq (.v 15) (.c 1))), (.db 22 (.and (.v 20) (.v 21))), (.di 18 (.ar .add .i64 (.v 17) (.c 1))), (.di 19 (.ite (.v 22) (.v 18) (.v 17)))] [(.v 19), (.v 0), (.v 1), (.v 2), (.v 3), (.v 4), (.v 5), (.v 6), (.v 7), (.v 8), (.v 9), (.v 10), (.v 11), (.v 12), (.v 13), (.v 14), (.v 15), (.v 16)] [(.v 20), (.v 0), (.v 1), (.v 2), (.v 3), (.v 4), (.v 5), (.v 6), (.v 7), (.v 8), (.v 9), (.v 10), (.v 11), (.v 12), (.v 13)])
theorem k59 : fnX Tryz.prog (hnd Tryz.prog (gl m) inl (tabS T9)) (gl m) (ctlOf Tryz.f59 (gl m) s59) Tryz.f59 s59 = some S59 := by kernel_rfl
noncomputable def F59 : Fun := S59.run (tabF T9) true
theorem x59 : AllOk Tryz.prog (tabF T9) (gl m) (tabS T9) := A9
theorem y59 : LoopsOk (tabF T9) (ctlOf Tryz.f59 (gl m) s59) := (LoopsOk.nil rfl)
theorem z59 : (wsEm S59.em (argI s59.args) (argB s59.args) && shOk s59 && s59.pre) = true := by kernel_rfl
theorem d59 : Contract Tryz.prog (gl m) 59 s59 (S59.run (tabF T9) s59.pre) := contract_pre (hnd_ok x59 inl_ok) Tryz.func59 y59 k59 z59
theorem c59 : Contract Tryz.prog (gl m) 59 s59 F59 := d59
theorem call59 : ∀ args w, (callFunc 59 args).run Tryz.prog w = .ok (.enter 59 args) w := callable_of Tryz.func59 (by kernel_rfl) (by kernel_rfl)
noncomputable def e59 : Nat × Sum × Fun := (59, s59, F59)
noncomputable def T10 : List (Nat × Sum × Fun) := e59 :: T9
theorem A10 : AllOk Tryz.prog (tabF T10) (gl m) (tabS T10) := AllOk.cons (s := e59.2.1) c59 call59 (fun S h => by cases h) A9
/-! seepage/label.And -/
def s95 : Sum := { args := [(.val true [(.int .u8), .bool]), (.val true [(.int .u8), .bool])], tup := false, res := [(true, [(.int .u8), .bool])], pre := false }
def S95 : Smry := (.mk [(.di 2 (.ar .and .u8 (.v 0) (.v 1))), (.db 2 (.not (.v 0))), (.db 3 (.not (.v 1))), (.db 4 (.not (.v 1))), (.db 5 (.not (.v 0))), (.db 6 (.ite (.v 5) (.v 1) (.v 0))), (.db 7 (.not (.v 0))), (.db 8 (.not (.v 1))), (.db 9 (.and (.v 7) (.v 8))), (.db 10 (.ite (.v 9) (.c false) (.c true)))] [(.v 2)] [(.v 10)])
theorem k95 : fnX Tryz.prog (hnd Tryz.prog (gl m) inl (tabS T10)) (gl m) (ctlOf Tryz.f95 (gl m) s95) Tryz.f95 s95 = some S95 := by kernel_rfl
noncomputable def F95 : Fun := S95.run (tabF T10) false
theorem x95 : AllOk Tryz.prog (tabF T10) (gl m) (tabS T10) := A10
theorem y95 : LoopsOk (tabF T10) (ctlOf Tryz.f95 (gl m) s95) := (LoopsOk.nil rfl)
theorem z95 : (wsEm S95.em (argI s95.args) (argB s95.args) && shOk s95 && noOb S95.em) = true := by kernel_rfl
theorem d95 : Contract Tryz.prog (gl m) 95 s95 (S95.run (tabF T10) s95.pre) := contract_of (hnd_ok x95 inl_ok) Tryz.func95 y95 k95 z95
theorem c95 : Contract Tryz.prog (gl m) 95 s95 F95 := d95
theorem call95 : ∀ args w, (callFunc 95 args).run Tryz.prog w = .ok (.enter 95 args) w := callable_of Tryz.func95 (by kernel_rfl) (by kernel_rfl)
noncomputable def e95 : Nat × Sum × Fun := (95, withInl s95 S95, F95)
noncomputable def T11 : List (Nat × Sum × Fun) := e95 :: T10
theorem A11 : AllOk Tryz.prog (tabF T11) (gl m) (tabS T11) := AllOk.cons (s := e95.2.1) c95 call95 (fun S h => by cases h; exact ⟨rfl, fun _ _ => rfl⟩) A10
/-! (*seepage/core.work).stored -/
def s60 : Sum := { args := [(.ptr [(.int .u8), .bool, (.int .u8), .bool, (.int .u8), .bool, (.int .u8), .bool, (.int .u8), (.int .u8), (.int .u16), .bool, (.int .u8), (.int .i64), (.int .u16), .bool, (.int .u8), .bool, .bool, (.int .i64), .bool, .bool, (.int .i64), .bool, .bool, .str, (.int .i64), (.int .i64), (.int .i64), .bool, .bool])], tup := false, res := [(true, [(.int .u16), .bool, (.int .u8), .bool, .bool])], pre := true }
def S60 : Smry := (.mk [(.di 17 (.ar .and .u8 (.v 0) (.v 1))), (.db 14 (.not (.v 0))), (.db 15 (.not (.v 1))), (.db 16 (.not (.v 1))), (.db 17 (.not (.v 0))), (.db 18 (.ite (.v 17) (.v 1) (.v 0))), (.db 19 (.not (.v 0))), (.db 20 (.not (.v 1))), (.db 21 (.and (.v 19) (.v 20))), (.db 22 (.ite (.v 21) (.c false) (.c true))), (.db 23 (.cm .eql (.v 13) (.c 190536410541747572716161940294993060653670952879209361976010886845277269426889886634209609689810565578943435724963250271593760288975980855296))), (.db 24 (.cm .eql (.v 13) (.c 13407807929942597099574024998205846127479365820592393447715584636778145609993618244565757989468325216272923359915934633759014893021269955212113293426556928))), (.db 25 (.cm .eql (.v 13) (.c 53631231719770388398296099992823384509917463282369573580886268967943437700214259174971380883969035499343018934475392786320276541457109665051414240444809216))), (.db 26 (.cm .eql (.v 13) (.c 48777321098687378615337456715518223527321845979140174486803824535957194202614548865552052991894147362403504915054570481332879203663947413585920))), (.db 27 (.cm .eql (.v 13) (.c 799167628880894011233688890827050574271641124522232618791793861197122669815636768613204836217661308380857924847682500774836877531324633281690861568))), (.db 28 (.cm .eql (.v 13) (.c 3196670515523576044934755563308202297086564498088930462651626406189408165229216764865599923370423142231605007948922787158540922853018036396921716736))), (.db 29 (.cm .eql (.v 13) (.c 11356855067118857664833184498250070849279818110418877719402962138967351283245675959335499109633036314292228002293666457043721431023616))), (.db 30 (.cm .eql (.v 13) (.c 190536410541747572716161940294993060653600960856017324112419134017052639766042789901501552906650088255196995594321035314226829309603383083008))), (.di 18 (.ite (.v 30) (.v 17) (.c 0))), (.db 31 (.and (.v 30) (.v 22))), (.di 19 (.ite (.v 29) (.v 17) (.v 18))), (.db 32 (.ite (.v 29) (.v 22) (.v 31))), (.di 20 (.ite (.v 28) (.v 2) (.v 19))), (.db 33 (.ite (.v 28) (.v 2) (.v 32))), (.di 21 (.ite (.v 27) (.v 1) (.v 20))), (.db 34 (.ite (.v 27) (.v 1) (.v 33))), (.di 22 (.ite (.v 26) (.v 17) (.v 21))), (.db 35 (.ite (.v 26) (.v 22) (.v 34))), (.di 23 (.ite (.v 25) (.v 2) (.v 22))), (.db 36 (.ite (.v 25) (.v 2) (.v 35))), (.di 24 (.ite (.v 24) (.v 1) (.v 23))), (.db 37 (.ite (.v 24) (.v 1) (.v 36))), (.di 25 (.ite (.v 23) (.v 0) (.v 24))), (.db 38 (.ite (.v 23) (.v 0) (.v 37))), (.di 26 (.lenq (.v 13) 1)), (.db 39 (.cm .lss (.c 1) (.v 26))), (.ob [] (.v 39)), (.di 27 (.get (.v 13) (.c 1) 1 0)), (.db 40 (.cm .eql (.v 27) (.c 72))), (.db 41 (.cm .eql (.v 13) (.c 190536410541747572716161940294993060653600960856017324112419134017052639766042789901501552906650088255196995594321035314226829309603383083008))), (.db 42 (.or (.v 40) (.v 41))), (.db 43 (.not (.v 42))), (.di 28 (.cv .u8 (.v 9))), (.di 29 (.ar .shr .u16 (.v 9) (.c 8))), (.di 30 (.cv .u8 (.v 29))), (.db 44 (.not (.v 7))), (.di 31 (.ar .add .u8 (.v 30) (.c 1))), (.di 32 (.ite (.v 44) (.v 31) (.v 30))), (.di 33 (.ar .and .u8 (.v 25) (.v 32))), (.db 45 (.not (.v 38))), (.db 46 (.not (.v 5))), (.db 47 (.not (.v 5))), (.db 48 (.not (.v 38))), (.db 49 (.ite (.v 48) (.v 5) (.v 38))), (.db 50 (.not (.v 38))), (.db 51 (.not (.v 5))), (.db 52 (.and (.v 50) (.v 51))), (.db 53 (.ite (.v 52) (.c false) (.c true))), (.di 34 (.ar .and .u16 (.v 9) (.c 255))), (.di 35 (.cv .u16 (.v 33))), (.di 36 (.ar .shl .u16 (.v 35) (.c 8))), (.di 37 (.ar .or .u16 (.v 34) (.v 36))), (.di 38 (.ite (.v 7) (.v 37) (.v 9))), (.db 54 (.ite (.v 7) (.v 53) (.v 5))), (.db 55 (.not (.v 43))), (.di 39 (.ite (.v 55) (.v 38) (.v 9))), (.di 40 (.ite (.v 55) (.v 33) (.v 25))), (.db 56 (.ite (.v 55) (.v 53) (.v 38))), (.db 57 (.ite (.v 55) (.v 54) (.v 5)))] [(.v 39), (.v 40), (.v 0), (.v 1), (.v 2), (.v 3), (.v 4), (.v 5), (.v 6), (.v 7), (.v 8), (.v 9), (.v 10), (.v 11), (.v 12), (.v 13), (.v 14), (.v 15), (.v 16)] [(.c true), (.v 56), (.v 57), (.v 0), (.v 1), (.v 2), (.v 3), (.v 4), (.v 5), (.v 6), (.v 7), (.v 8), (.v 9), (.v 10), (.v 11), (.v 12), (.v 13)])
theorem k60 : fnX Tryz.prog (hnd Tryz.prog (gl m) inl (tabS T11)) (gl m) (ctlOf Tryz.f60 (gl m) s60) Tryz.f60 s60 = some S60 := by kernel_rfl
noncomputable def F60 : Fun := S60.run (tabF T11) true
theorem x60 : AllOk Tryz.prog (tabF T11) (gl m) (tabS T11) := A11
theorem y60 : LoopsOk (tabF T11) (ctlOf Tryz.f60 (gl m) s60) := (LoopsOk.nil rfl)
theorem z60 : (wsEm S60.em (argI s60.args) (argB s60.args) && shOk s60 && s60.pre) = true := by kernel_rfl
theorem d60 : Contract Tryz.prog (gl m) 60 s60 (S60.run (tabF T11) s60.pre) := contract_pre (hnd_ok x60 inl_ok) Tryz.func60 y60 k60 z60
theorem c60 : Contract Tryz.prog (gl m) 60 s60 F60 := d60
theorem call60 : ∀ args w, (callFunc 60 args).run Tryz.prog w = .ok (.enter 60 args) w := callable_of Tryz.func60 (by kernel_rfl) (by kernel_rfl)
noncomputable def e60 : Nat × Sum × Fun := (60, s60, F60)
noncomputable def T12 : List (Nat × Sum × Fun) := e60 :: T11
theorem A12 : AllOk Tryz.prog (tabF T12) (gl m) (tabS T12) := AllOk.cons (s := e60.2.1) c60 call60 (fun S h => by cases h) A11
/-! seepage/label.Bit -/
def s107 : Sum := { args := [(.val true [(.int .u8), .bool]), (.val false [(.int .i64)])], tup := false, res := [(true, [(.int .u8), .bool])], pre := false }
def S107 : Smry := (.mk [(.db 1 (.cm .lss (.v 1) (.c 0))), (.db 2 (.cm .gtr (.v 1) (.c 7))), (.db 3 (.or (.v 1) (.v 2))), (.db 4 (.not (.v 0))), (.db 5 (.not (.v 0))), (.db 6 (.not (.v 0))), (.db 7 (.ite (.v 6) (.c false) (.c true))), (.db 8 (.cm .geq (.v 1) (.c 0))), (.ob [((.v 3), false)] (.v 8)), (.di 2 (.ar .shr .u8 (.v 0) (.v 1))), (.di 3 (.ar .and .u8 (.v 2) (.c 1))), (.db 9 (.not (.v 0))), (.db 10 (.not (.v 0))), (.db 11 (.not (.v 0))), (.db 12 (.ite (.v 11) (.c false) (.c true))), (.db 13 (.not (.v 3))), (.di 4 (.ite (.v 13) (.v 3) (.c 0))), (.db 14 (.ite (.v 13) (.v 12) (.v 7)))] [(.v 4)] [(.v 14)])
theorem k107 : fnX Tryz.prog (hnd Tryz.prog (gl m) inl (tabS T12)) (gl m) (ctlOf Tryz.f107 (gl m) s107) Tryz.f107 s107 = some S107 := by kernel_rfl
noncomputable def F107 : Fun := S107.run (tabF T12) false
theorem x107 : AllOk Tryz.prog (tabF T12) (gl m) (tabS T12) := A12
theorem y107 : LoopsOk (tabF T12) (ctlOf Tryz.f107 (gl m) s107) := (LoopsOk.nil rfl)
theorem z107 : (wsEm S107.em (argI s107.args) (argB s107.args) && shOk s107 && selfOb S107.em) = true := by kernel_rfl
theorem d107 : Contract Tryz.prog (gl m) 107 s107 (S107.run (tabF T12) s107.pre) := contract_self (hnd_ok x107 inl_ok) Tryz.func107 y107 k107 z107
theorem c107 : Contract Tryz.prog (gl m) 107 s107 F107 := d107
theorem call107 : ∀ args w, (callFunc 107 args).run Tryz.prog w = .ok (.enter 107 args) w := callable_of Tryz.func107 (by kernel_rfl) (by kernel_rfl)
noncomputable def e107 : Nat × Sum × Fun := (107, withInl s107 S107, F107)
noncomputable def T13 : List (Nat × Sum × Fun) := e107 :: T12
theorem A13 : AllOk Tryz.prog (tabF T13) (gl m) (tabS T13) := AllOk.cons (s := e107.2.1) c107 call107 (fun S h => by cases h; exact ⟨rfl, fun _ _ => rfl⟩) A12
/-! seepage/alu.Set -/
def s105 : Sum := { args := [(.val true [(.int .u8), (.int .u8)]), (.val false [(.int .u8)]), (.val true [(.int .u8), .bool])], tup := false, res := [(true, [(.int .u8), (.int .u8)])], pre := false }
def S105 : Smry := (.mk [(.di 4 (.ar .and .u8 (.v 0) (.c 207))), (.di 5 (.ar .and .u8 (.v 1) (.c 207))), (.db 1 (.cm .neq (.v 3) (.c 0))), (.di 6 (.ar .and .u8 (.v 2) (.c 207))), (.di 7 (.ar .andNot .u8 (.v 4) (.v 6))), (.di 8 (.ar .and .u8 (.v 2) (.c 207))), (.di 9 (.ar .or .u8 (.v 7) (.v 8))), (.di 10 (.ite (.v 1) (.v 9) (.v 7))), (.di 11 (.ar .and .u8 (.v 2) (.c 207))), (.di 12 (.ar .andNot .u8 (.v 5) (.v 11))), (.di 13 (.ar .and .u8 (.v 2) (.c 207))), (.di 14 (.ar .or .u8 (.v 12) (.v 13))), (.di 15 (.ite (.v 0) (.v 14) (.v 12)))] [(.v 10), (.v 15)] [])
theorem k105 : fnX Tryz.prog (hnd Tryz.prog (gl m) inl (tabS T13)) (gl m) (ctlOf Tryz.f105 (gl m) s105) Tryz.f105 s105 = some S105 := by kernel_rfl
noncomputable def F105 : Fun := S105.run (tabF T13) false
theorem x105 : AllOk Tryz.prog (tabF T13) (gl m) (tabS T13) := A13
theorem y105 : LoopsOk (tabF T13) (ctlOf Tryz.f105 (gl m) s105) := (LoopsOk.nil rfl)
theorem z105 : (wsEm S105.em (argI s105.args) (argB s105.args) && shOk s105 && noOb S105.em) = true := by kernel_rfl
theorem d105 : Contract Tryz.prog (gl m) 105 s105 (S105.run (tabF T13) s105.pre) := contract_of (hnd_ok x105 inl_ok) Tryz.func105 y105 k105 z105
theorem c105 : Contract Tryz.prog (gl m) 105 s105 F105 := d105
theorem call105 : ∀ args w, (callFunc 105 args).run Tryz.prog w = .ok (.enter 105 args) w := callable_of Tryz.func105 (by kernel_rfl) (by kernel_rfl)
noncomputable def e105 : Nat × Sum × Fun := (105, s105, F105)
noncomputable def T14 : List (Nat × Sum × Fun) := e105 :: T13
theorem A14 : AllOk Tryz.prog (tabF T14) (gl m) (tabS T14) := AllOk.cons (s := e105.2.1) c105 call105 (fun S h => by cases h) A13
/-! seepage/alu.NZ -/
def s103 : Sum := { args := [(.val true [(.int .u8), (.int .u8)]), (.val true [(.int .u8), .bool])], tup := false, res := [(true, [(.int .u8), (.int .u8)])], pre := false }
def S103 : Smry := (.mk [(.db 1 (.cm .gtr (.v 2) (.c 127))), (.db 2 (.not (.v 0))), (.db 3 (.not (.v 0))), (.db 4 (.not (.v 0))), (.db 5 (.ite (.v 4) (.c false) (.c true))), (.db 6 (.not (.v 0))), (.db 7 (.not (.v 0))), (.db 8 (.not (.v 0))), (.db 9 (.ite (.v 8) (.c false) (.c true))), (.db 10 (.not (.v 1))), (.di 3 (.ite (.v 10) (.c 0) (.c 1))), (.db 11 (.ite (.v 10) (.v 9) (.v 5))), (.call 105 [(.v 0), (.v 1), (.c 128), (.v 3)] [(.v 11)] 4 2 12 0), (.db 12 (.cm .eql (.v 2) (.c 0))), (.db 13 (.not (.v 0))), (.db 14 (.not (.v 0))), (.db 15 (.not (.v 0))), (.db 16 (.ite (.v 15) (.c false) (.c true))), (.db 17 (.not (.v 0))), (.db 18 (.not (.v 0))), (.db 19 (.not (.v 0))), (.db 20 (.ite (.v 19) (.c false) (.c true))), (.db 21 (.not (.v 12))), (.di 6 (.ite (.v 21) (.c 0) (.c 1))), (.db 22 (.ite (.v 21) (.v 20) (.v 16))), (.call 105 [(.v 4), (.v 5), (.c 2), (.v 6)] [(.v 22)] 7 2 23 0)] [(.v 7), (.v 8)] [])
theorem k103 : fnX Tryz.prog (hnd Tryz.prog (gl m) inl (tabS T14)) (gl m) (ctlOf Tryz.f103 (gl m) s103) Tryz.f103 s103 = some S103 := by kernel_rfl
noncomputable def F103 : Fun := S103.run (tabF T14) false
theorem x103 : AllOk Tryz.prog (tabF T14) (gl m) (tabS T14) := A14
theorem y103 : LoopsOk (tabF T14) (ctlOf Tryz.f103 (gl m) s103) := (LoopsOk.nil rfl)
theorem z103 : (wsEm S103.em (argI s103.args) (argB s103.args) && shOk s103 && noOb S103.em) = true := by kernel_rfl
theorem d103 : Contract Tryz.prog (gl m) 103 s103 (S103.run (tabF T14) s103.pre) := contract_of (hnd_ok x103 inl_ok) Tryz.func103 y103 k103 z103
theorem c103 : Contract Tryz.prog (gl m) 103 s103 F103 := d103
theorem call103 : ∀ args w, (callFunc 103 args).run Tryz.prog w = .ok (.enter 103 args) w := callable_of Tryz.func103 (by kernel_rfl) (by kernel_rfl)
noncomputable def e103 : Nat × Sum × Fun := (103, s103, F103)
noncomputable def T15 : List (Nat × Sum × Fun) := e103 :: T14
theorem A15 : AllOk Tryz.prog (tabF T15) (gl m) (tabS T15) := AllOk.cons (s := e103.2.1) c103 call103 (fun S h => by cases h) A14
/-! seepage/alu.shifted -/
def s106 : Sum := { args := [(.val true [(.int .u8), (.int .u8)]), (.val true [(.int .u8), .bool]), (.val true [(.int .u8), .bool])], tup := true, res := [(true, [(.int .u8), .bool]), (true, [(.int .u8), (.int .u8)])], pre := false }
def S106 : Smry := (.mk [(.call 105 [(.v 0), (.v 1), (.c 1), (.v 3)] [(.v 1)] 4 2 2 0), (.call 103 [(.v 4), (.v 5), (.v 2)] [(.v 0)] 6 2 2 0)] [(.v 2), (.v 6), (.v 7)] [(.v 0)])
theorem k106 : fnX Tryz.prog (hnd Tryz.prog (gl m) inl (tabS T15)) (gl m) (ctlOf Tryz.f106 (gl m) s106) Tryz.f106 s106 = some S106 := by kernel_rfl
noncomputable def F106 : Fun := S106.run (tabF T15) false
theorem x106 : AllOk Tryz.prog (tabF T15) (gl m) (tabS T15) := A15
theorem y106 : LoopsOk (tabF T15) (ctlOf Tryz.f106 (gl m) s106) := (LoopsOk.nil rfl)
theorem z106 : (wsEm S106.em (argI s106.args) (argB s106.args) && shOk s106 && noOb S106.em) = true := by kernel_rfl
theorem d106 : Contract Tryz.prog (gl m) 106 s106 (S106.run (tabF T15) s106.pre) := contract_of (hnd_ok x106 inl_ok) Tryz.func106 y106 k106 z106
theorem c106 : Contract Tryz.prog (gl m) 106 s106 F106 := d106
theorem call106 : ∀ args w, (callFunc 106 args).run Tryz.prog w = .ok (.enter 106 args) w := callable_of Tryz.func106 (by kernel_rfl) (by kernel_rfl)
noncomputable def e106 : Nat × Sum × Fun := (106, s106, F106)
noncomputable def T16 : List (Nat × Sum × Fun) := e106 :: T15
theorem A16 : AllOk Tryz.prog (tabF T16) (gl m) (tabS T16) := AllOk.cons (s := e106.2.1) c106 call106 (fun S h => by cases h) A15
/-! seepage/alu.Asl -/
def s67 : Sum := { args := [(.val true [(.int .u8), (.int .u8)]), (.val true [(.int .u8), .bool])], tup := true, res := [(true, [(.int .u8), .bool]), (true, [(.int .u8), (.int .u8)])], pre := false }
def S67 : Smry := (.mk [(.di 3 (.ar .shl .u8 (.v 2) (.c 1))), (.db 1 (.not (.v 0))), (.db 2 (.not (.v 0))), (.db 3 (.not (.v 0))), (.db 4 (.ite (.v 3) (.c false) (.c true))), (.db 5 (.not (.v 0))), (.db 6 (.not (.v 0))), (.db 7 (.not (.v 0))), (.db 8 (.ite (.v 7) (.c false) (.c true))), (.di 4 (.ar .shr .u8 (.v 2) (.c 7))), (.di 5 (.ar .and .u8 (.v 4) (.c 1))), (.db 9 (.not (.v 0))), (.db 10 (.not (.v 0))), (.db 11 (.not (.v 0))), (.db 12 (.ite (.v 11) (.c false) (.c true))), (.call 106 [(.v 0), (.v 1), (.v 3), (.v 5)] [(.v 4), (.v 12)] 6 3 13 1)] [(.v 6), (.v 7), (.v 8)] [(.v 13)])
theorem k67 : fnX Tryz.prog (hnd Tryz.prog (gl m) inl (tabS T16)) (gl m) (ctlOf Tryz.f67 (gl m) s67) Tryz.f67 s67 = some S67 := by kernel_rfl
noncomputable def F67 : Fun := S67.run (tabF T16) false
theorem x67 : AllOk Tryz.prog (tabF T16) (gl m) (tabS T16) := A16
theorem y67 : LoopsOk (tabF T16) (ctlOf Tryz.f67 (gl m) s67) := (LoopsOk.nil rfl)
theorem z67 : (wsEm S67.em (argI s67.args) (argB s67.args) && shOk s67 && noOb S67.em) = true := by kernel_rfl
theorem d67 : Contract Tryz.prog (gl m) 67 s67 (S67.run (tabF T16) s67.pre) := contract_of (hnd_ok x67 inl_ok) Tryz.func67 y67 k67 z67
theorem c67 : Contract Tryz.prog (gl m) 67 s67 F67 := d67
theorem call67 : ∀ args w, (callFunc 67 args).run Tryz.prog w = .ok (.enter 67 args) w := callable_of Tryz.func67 (by kernel_rfl) (by kernel_rfl)
noncomputable def e67 : Nat × Sum × Fun := (67, s67, F67)
noncomputable def T17 : List (Nat × Sum × Fun) := e67 :: T16
theorem A17 : AllOk Tryz.prog (tabF T17) (gl m) (tabS T17) := AllOk.cons (s := e67.2.1) c67 call67 (fun S h => by cases h) A16
/-! seepage/alu.Lsr -/
def s68 : Sum := { args := [(.val true [(.int .u8), (.int .u8)]), (.val true [(.int .u8), .bool])], tup := true, res := [(true, [(.int .u8), .bool]), (true, [(.int .u8), (.int .u8)])], pre := false }
def S68 : Smry := (.mk [(.di 3 (.ar .shr .u8 (.v 2) (.c 1))), (.db 1 (.not (.v 0))), (.db 2 (.not (.v 0))), (.db 3 (.not (.v 0))), (.db 4 (.ite (.v 3) (.c false) (.c true))), (.db 5 (.not (.v 0))), (.db 6 (.not (.v 0))), (.db 7 (.not (.v 0))), (.db 8 (.ite (.v 7) (.c false) (.c true))), (.di 4 (.ar .shr .u8 (.v 2) (.c 0))), (.di 5 (.ar .and .u8 (.v 4) (.c 1))), (.db 9 (.not (.v 0))), (.db 10 (.not (.v 0))), (.db 11 (.not (.v 0))), (.db 12 (.ite (.v 11) (.c false) (.c true))), (.call 106 [(.v 0), (.v 1), (.v 3), (.v 5)] [(.v 4), (.v 12)] 6 3 13 1)] [(.v 6), (.v 7), (.v 8)] [(.v 13)])
theorem k68 : fnX Tryz.prog (hnd Tryz.prog (gl m) inl (tabS T17)) (gl m) (ctlOf Tryz.f68 (gl m) s68) Tryz.f68 s68 = some S68 := by kernel_rfl
noncomputable def F68 : Fun := S68.run (tabF T17) false
theorem x68 : AllOk Tryz.prog (tabF T17) (gl m) (tabS T17) := A17
theorem y68 : LoopsOk (tabF T17) (ctlOf Tryz.f68 (gl m) s68) := (LoopsOk.nil rfl)
theorem z68 : (wsEm S68.em (argI s68.args) (argB s68.args) && shOk s68 && noOb S68.em) = true := by kernel_rfl
theorem d68 : Contract Tryz.prog (gl m) 68 s68 (S68.run (tabF T17) s68.pre) := contract_of (hnd_ok x68 inl_ok) Tryz.func68 y68 k68 z68
theorem c68 : Contract Tryz.prog (gl m) 68 s68 F68 := d68
theorem call68 : ∀ args w, (callFunc 68 args).run Tryz.prog w = .ok (.enter 68 args) w := callable_of Tryz.func68 (by kernel_rfl) (by kernel_rfl)
noncomputable def e68 : Nat × Sum × Fun := (68, s68, F68)
noncomputable def T18 : List (Nat × Sum × Fun) := e68 :: T17
theorem A18 : AllOk Tryz.prog (tabF T18) (gl m) (tabS T18) := AllOk.cons (s := e68.2.1) c68 call68 (fun S h => by cases h) A17
/-! seepage/alu.Get -/
def s108 : Sum := { args := [(.val true [(.int .u8), (.int .u8)]), (.val false [(.int .u8)])], tup := false, res := [(true, [(.int .u8), .bool])], pre := false }
def S108 : Smry := (.mk [(.di 3 (.ar .and .u8 (.v 2) (.c 207))), (.di 4 (.ar .and .u8 (.v 1) (.v 3))), (.db 0 (.cm .gtr (.v 4) (.c 0))), (.di 5 (.ar .and .u8 (.v 0) (.v 3))), (.db 1 (.cm .gtr (.v 5) (.c 0))), (.di 6 (.ite (.v 1) (.c 1) (.c 0)))] [(.v 6)] [(.v 0)])
theorem k108 : fnX Tryz.prog (hnd Tryz.prog (gl m) inl (tabS T18)) (gl m) (ctlOf Tryz.f108 (gl m) s108) Tryz.f108 s108 = some S108 := by kernel_rfl
noncomputable def F108 : Fun := S108.run (tabF T18) false
theorem x108 : AllOk Tryz.prog (tabF T18) (gl m) (tabS T18) := A18
theorem y108 : LoopsOk (tabF T18) (ctlOf Tryz.f108 (gl m) s108) := (LoopsOk.nil rfl)
theorem z108 : (wsEm S108.em (argI s108.args) (argB s108.args) && shOk s108 && noOb S108.em) = true := by kernel_rfl
theorem d108 : Contract Tryz.prog (gl m) 108 s108 (S108.run (tabF T18) s108.pre) := contract_of (hnd_ok x108 inl_ok) Tryz.func108 y108 k108 z108
theorem c108 : Contract Tryz.prog (gl m) 108 s108 F108 := d108
theorem call108 : ∀ args w, (callFunc 108 args).run Tryz.prog w = .ok (.enter 108 args) w := callable_of Tryz.func108 (by kernel_rfl) (by kernel_rfl)
noncomputable def e108 : Nat × Sum × Fun := (108, withInl s108 S108, F108)
noncomputable def T19 : List (Nat × Sum × Fun) := e108 :: T18
theorem A19 : AllOk Tryz.prog (tabF T19) (gl m) (tabS T19) := AllOk.cons (s := e108.2.1) c108 call108 (fun S h => by cases h; exact ⟨rfl, fun _ _ => rfl⟩) A18
/-! seepage/alu.Rol -/
def s69 : Sum := { args := [(.val true [(.int .u8), (.int .u8)]), (.val true [(.int .u8), .bool])], tup := true, res := [(true, [(.int .u8), .bool]), (true, [(.int .u8), (.int .u8)])], pre := false }
def S69 : Smry := (.mk [(.di 3 (.ar .and .u8 (.v 1) (.c 1))), (.db 1 (.cm .gtr (.v 3) (.c 0))), (.di 4 (.ar .and .u8 (.v 0) (.c 1))), (.db 2 (.cm .gtr (.v 4) (.c 0))), (.di 5 (.ite (.v 2) (.c 1) (.c 0))), (.di 6 (.ar .shl .u8 (.v 2) (.c 1))), (.di 7 (.ar .or .u8 (.v 6) (.v 5))), (.db 3 (.not (.v 0))), (.db 4 (.not (.v 1))), (.db 5 (.not (.v 1))), (.db 6 (.not (.v 0))), (.db 7 (.ite (.v 6) (.v 1) (.v 0))), (.db 8 (.not (.v 0))), (.db 9 (.not (.v 1))), (.db 10 (.and (.v 8) (.v 9))), (.db 11 (.ite (.v 10) (.c false) (.c true))), (.db 12 (.not (.v 0))), (.db 13 (.not (.v 0))), (.db 14 (.not (.v 0))), (.db 15 (.ite (.v 14) (.c false) (.c true))), (.di 8 (.ar .shr .u8 (.v 2) (.c 7))), (.di 9 (.ar .and .u8 (.v 8) (.c 1))), (.db 16 (.not (.v 0))), (.db 17 (.not (.v 0))), (.db 18 (.not (.v 0))), (.db 19 (.ite (.v 18) (.c false) (.c true))), (.call 106 [(.v 0), (.v 1), (.v 7), (.v 9)] [(.v 11), (.v 19)] 10 3 20 1)] [(.v 10), (.v 11), (.v 12)] [(.v 20)])
theorem k69 : fnX Tryz.prog (hnd Tryz.prog (gl m) inl (tabS T19)) (gl m) (ctlOf Tryz.f69 (gl m) s69) Tryz.f69 s69 = some S69 := by kernel_rfl
noncomputable def F69 : Fun := S69.run (tabF T19) false
theorem x69 : AllOk Tryz.prog (tabF T19) (gl m) (tabS T19) := A19
theorem y69 : LoopsOk (tabF T19) (ctlOf Tryz.f69 (gl m) s69) := (LoopsOk.nil rfl)
theorem z69 : (wsEm S69.em (argI s69.args) (argB s69.args) && shOk s69 && noOb S69.em) = true := by kernel_rfl
theorem d69 : Contract Tryz.prog (gl m) 69 s69 (S69.run (tabF T19) s69.pre) := contract_of (hnd_ok x69 inl_ok) Tryz.func69 y69 k69 z69
theorem c69 : Contract Tryz.prog (gl m) 69 s69 F69 := d69
theorem call69 : ∀ args w, (callFunc 69 args).run Tryz.prog w = .ok (.enter 69 args) w := callable_of Tryz.func69 (by kernel_rfl) (by kernel_rfl)
noncomputable def e69 : Nat × Sum × Fun := (69, s69, F69)
noncomputable def T20 : List (Nat × Sum × Fun) := e69 :: T19
theorem A20 : AllOk Tryz.prog (tabF T20) (gl m) (tabS T20) := AllOk.cons (s := e69.2.1) c69 call69 (fun S h => by cases h) A19
/-! seepage/alu.Ror -/
def s70 : Sum := { args := [(.val true [(.int .u8), (.int .u8)]), (.val true [(.int .u8), .bool])], tup := true, res := [(true, [(.int .u8), .bool]), (true, [(.int .u8), (.int .u8)])], pre := false }
def S70 : Smry := (.mk [(.di 3 (.ar .and .u8 (.v 1) (.c 1))), (.db 1 (.cm .gtr (.v 3) (.c 0))), (.di 4 (.ar .and .u8 (.v 0) (.c 1))), (.db 2 (.cm .gtr (.v 4) (.c 0))), (.di 5 (.ite (.v 2) (.c 1) (.c 0))), (.di 6 (.ar .shr .u8 (.v 2) (.c 1))), (.di 7 (.ar .shl .u8 (.v 5) (.c 7))), (.di 8 (.ar .or .u8 (.v 6) (.v 7))), (.db 3 (.not (.v 0))), (.db 4 (.not (.v 1))), (.db 5 (.not (.v 1))), (.db 6 (.not (.v 0))), (.db 7 (.ite (.v 6) (.v 1) (.v 0))), (.db 8 (.not (.v 0))), (.db 9 (.not (.v 1))), (.db 10 (.and (.v 8) (.v 9))), (.db 11 (.ite (.v 10) (.c false) (.c true))), (.db 12 (.not (.v 0))), (.db 13 (.not (.v 0))), (.db 14 (.not (.v 0))), (.db 15 (.ite (.v 14) (.c false) (.c true))), (.di 9 (.ar .shr .u8 (.v 2) (.c 0))), (.di 10 (.ar .and .u8 (.v 9) (.c 1))), (.db 16 (.not (.v 0))), (.db 17 (.not (.v 0))), (.db 18 (.not (.v 0))), (.db 19 (.ite (.v 18) (.c false) (.c true))), (.call 106 [(.v 0), (.v 1), (.v 8), (.v 10)] [(.v 11), (.v 19)] 11 3 20 1)] [(.v 11), (.v 12), (.v 13)] [(.v 20)])
theorem k70 : fnX Tryz.prog (hnd Tryz.prog (gl m) inl (tabS T20)) (gl m) (ctlOf Tryz.f70 (gl m) s70) Tryz.f70 s70 = some S70 := by kernel_rfl
noncomputable def F70 : Fun := S70.run (tabF T20) false
theorem x70 : AllOk Tryz.prog (tabF T20) (gl m) (tabS T20) := A20
theorem y70 : LoopsOk (tabF T20) (ctlOf Tryz.f70 (gl m) s70) := (LoopsOk.nil rfl)
theorem z70 : (wsEm S70.em (argI s70.args) (argB s70.args) && shOk s70 && noOb S70.em) = true := by kernel_rfl
theorem d70 : Contract Tryz.prog (gl m) 70 s70 (S70.run (tabF T20) s70.pre) := contract_of (hnd_ok x70 inl_ok) Tryz.func70 y70 k70 z70
theorem c70 : Contract Tryz.prog (gl m) 70 s70 F70 := d70
theorem call70 : ∀ args w, (callFunc 70 args).run Tryz.prog w = .ok (.enter 70 args) w := callable_of Tryz.func70 (by kernel_rfl) (by kernel_rfl)
noncomputable def e70 : Nat × Sum × Fun := (70, s70, F70)
noncomputable def T21 : List (Nat × Sum × Fun) := e70 :: T20
theorem A21 : AllOk Tryz.prog (tabF T21) (gl m) (tabS T21) := AllOk.cons (s := e70.2.1) c70 call70 (fun S h => by cases h) A20
/-! seepage/label.Or -/
def s109 : Sum := { args := [(.val true [(.int .u8), .bool]), (.val true [(.int .u8), .bool])], tup := false, res := [(true, [(.int .u8), .bool])], pre := false }
def S109 : Smry := (.mk [(.di 2 (.ar .or .u8 (.v 0) (.v 1))), (.db 2 (.not (.v 0))), (.db 3 (.not (.v 1))), (.db 4 (.not (.v 1))), (.db 5 (.not (.v 0))), (.db 6 (.ite (.v 5) (.v 1) (.v 0))), (.db 7 (.not (.v 0))), (.db 8 (.not (.v 1))), (.db 9 (.and (.v 7) (.v 8))), (.db 10 (.ite (.v 9) (.c false) (.c true)))] [(.v 2)] [(.v 10)])
theorem k109 : fnX Tryz.prog (hnd Tryz.prog (gl m) inl (tabS T21)) (gl m) (ctlOf Tryz.f109 (gl m) s109) Tryz.f109 s109 = some S109 := by kernel_rfl
noncomputable def F109 : Fun := S109.run (tabF T21) false
theorem x109 : AllOk Tryz.prog (tabF T21) (gl m) (tabS T21) := A21
theorem y109 : LoopsOk (tabF T21) (ctlOf Tryz.f109 (gl m) s109) := (LoopsOk.nil rfl)
theorem z109 : (wsEm S109.em (argI s109.args) (argB s109.args) && shOk s109 && noOb S109.em) = true := by kernel_rfl
theorem d109 : Contract Tryz.prog (gl m) 109 s109 (S109.run (tabF T21) s109.pre) := contract_of (hnd_ok x109 inl_ok) Tryz.func109 y109 k109 z109
theorem c109 : Contract Tryz.prog (gl m) 109 s109 F109 := d109
theorem call109 : ∀ args w, (callFunc 109 args).run Tryz.prog w = .ok (.enter 109 args) w := callable_of Tryz.func109 (by kernel_rfl) (by kernel_rfl)
noncomputable def e109 : Nat × Sum × Fun := (109, withInl s109 S109, F109)
noncomputable def T22 : List (Nat × Sum × Fun) := e109 :: T21
theorem A22 : AllOk Tryz.prog (tabF T22) (gl m) (tabS T22) := AllOk.cons (s := e109.2.1) c109 call109 (fun S h => by cases h; exact ⟨rfl, fun _ _ => rfl⟩) A21
/-! (*seepage/core.work).ora -/
def s71 : Sum := { args := [(.ptr [(.int .u8), .bool, (.int .u8), .bool, (.int .u8), .bool, (.int .u8), .bool, (.int .u8), (.int .u8), (.int .u16), .bool, (.int .u8), (.int .i64), (.int .u16), .bool, (.int .u8), .bool, .bool, (.int .i64), .bool, .bool, (.int .i64), .bool, .bool, .str, (.int .i64), (.int .i64), (.int .i64), .bool, .bool]), (.val true [(.int .u8), .bool])], tup := true, res := [], pre := false }
def S71 : Smry := (.mk [(.di 18 (.ar .or .u8 (.v 0) (.v 17))), (.db 15 (.not (.v 0))), (.db 16 (.not (.v 14))), (.db 17 (.not (.v 14))), (.db 18 (.not (.v 0))), (.db 19 (.ite (.v 18) (.v 14) (.v 0))), (.db 20 (.not (.v 0))), (.db 21 (.not (.v 14))), (.db 22 (.and (.v 20) (.v 21))), (.db 23 (.ite (.v 22) (.c false) (.c true))), (.call 103 [(.v 4), (.v 5), (.v 18)] [(.v 23)] 19 2 24 0)] [(.v 18), (.v 1), (.v 2), (.v 3), (.v 19), (.v 20), (.v 6), (.v 7), (.v 8), (.v 9), (.v 10), (.v 11), (.v 12), (.v 13), (.v 14), (.v 15), (.v 16)] [(.v 23), (.v 1), (.v 2), (.v 3), (.v 4), (.v 5), (.v 6), (.v 7), (.v 8), (.v 9), (.v 10), (.v 11), (.v 12), (.v 13)])
theorem k71 : fnX Tryz.prog (hnd Tryz.prog (gl m) inl (tabS T22)) (gl m) (ctlOf Tryz.f71 (gl m) s71) Tryz.f71 s71 = some S71 := by kernel_rfl
noncomputable def F71 : Fun := S71.run (tabF T22) false
theorem x71 : AllOk Tryz.prog (tabF T22) (gl m) (tabS T22) := A22
theorem y71 : LoopsOk (tabF T22) (ctlOf Tryz.f71 (gl m) s71) := (LoopsOk.nil rfl)
theorem z71 : (wsEm S71.em (argI s71.args) (argB s71.args) && shOk s71 && noOb S71.em) = true := by kernel_rfl
theorem d71 : Contract Tryz.prog (gl m) 71 s71 (S71.run (tabF T22) s71.pre) := contract_of (hnd_ok x71 inl_ok) Tryz.func71 y71 k71 z71
theorem c71 : Contract Tryz.prog (gl m) 71 s71 F71 := d71
theorem call71 : ∀ args w, (callFunc 71 args).run Tryz.prog w = .ok (.enter 71 args) w := callable_of Tryz.func71 (by kernel_rfl) (by kernel_rfl)
noncomputable def e71 : Nat × Sum × Fun := (71, s71, F71)
noncomputable def T23 : List (Nat × Sum × Fun) := e71 :: T22
theorem A23 : AllOk Tryz.prog (tabF T23) (gl m) (tabS T23) := AllOk.cons (s := e71.2.1) c71 call71 (fun S h => by cases h) A22
/-! (*seepage/core.work).and -/
def s72 : Sum := { args := [(.ptr [(.int .u8), .bool, (.int .u8), .bool, (.int .u8), .bool, (.int .u8), .bool, (.int .u8), (.int .u8), (.int .u16), .bool, (.int .u8), (.int .i64), (.int .u16), .bool, (.int .u8), .bool, .bool, (.int .i64), .bool, .bool, (.int .i64), .bool, .bool, .str, (.int .i64), (.int .i64), (.int .i64), .bool, .bool]), (.val true [(.int .u8), .bool])], tup := true, res := [], pre := false }
def S72 : Smry := (.mk [(.di 18 (.ar .and .u8 (.v 0) (.v 17))), (.db 15 (.not (.v 0))), (.db 16 (.not (.v 14))), (.db 17 (.not (.v 14))), (.db 18 (.not (.v 0))), (.db 19 (.ite (.v 18) (.v 14) (.v 0))), (.db 20 (.not (.v 0))), (.db 21 (.not (.v 14))), (.db 22 (.and (.v 20) (.v 21))), (.db 23 (.ite (.v 22) (.c false) (.c true))), (.call 103 [(.v 4), (.v 5), (.v 18)] [(.v 23)] 19 2 24 0)] [(.v 18), (.v 1), (.v 2), (.v 3), (.v 19), (.v 20), (.v 6), (.v 7), (.v 8), (.v 9), (.v 10), (.v 11), (.v 12), (.v 13), (.v 14), (.v 15), (.v 16)] [(.v 23), (.v 1), (.v 2), (.v 3), (.v 4), (.v 5), (.v 6), (.v 7), (.v 8), (.v 9), (.v 10), (.v 11), (.v 12), (.v 13)])
theorem k72 : fnX Tryz.prog (hnd Tryz.prog (gl m) inl (tabS T23)) (gl m) (ctlOf Tryz.f72 (gl m) s72) Tryz.f72 s72 = some S72 := by kernel_rfl
noncomputable def F72 : Fun := S72.run (tabF T23) false
theorem x72 : AllOk Tryz.prog (tabF T23) (gl m) (tabS T23) := A23
theorem y72 : LoopsOk (tabF T23) (ctlOf Tryz.f72 (gl m) s72) := (LoopsOk.nil rfl)
theorem z72 : (wsEm S72.em (argI s72.args) (argB s72.args) && shOk s72 && noOb S72.em) = true := by kernel_rfl
theorem d72 : Contract Tryz.prog (gl m) 72 s72 (S72.run (tabF T23) s72.pre) := contract_of (hnd_ok x72 inl_ok) Tryz.func72 y72 k72 z72
theorem c72 : Contract Tryz.prog (gl m) 72 s72 F72 := d72
theorem call72 : ∀ args w, (callFunc 72 args).run Tryz.prog w = .ok (.enter 72 args) w := callable_of Tryz.func72 (by kernel_rfl) (by kernel_rfl)
noncomputable def e72 : Nat × Sum × Fun := (72, s72, F72)
noncomputable def T24 : List (Nat × Sum × Fun) := e72 :: T23
theorem A24 : AllOk Tryz.prog (tabF T24) (gl m) (tabS T24) := AllOk.cons (s := e72.2.1) c72 call72 (fun S h => by cases h) A23
/-! seepage/label.Xor -/
def s110 : Sum := { args := [(.val true [(.int .u8), .bool]), (.val true [(.int .u8), .bool])], tup := false, res := [(true, [(.int .u8), .bool])], pre := false }
def S110 : Smry := (.mk [(.di 2 (.ar .xor .u8 (.v 0) (.v 1))), (.db 2 (.not (.v 0))), (.db 3 (.not (.v 1))), (.db 4 (.not (.v 1))), (.db 5 (.not (.v 0))), (.db 6 (.ite (.v 5) (.v 1) (.v 0))), (.db 7 (.not (.v 0))), (.db 8 (.not (.v 1))), (.db 9 (.and (.v 7) (.v 8))), (.db 10 (.ite (.v 9) (.c false) (.c true)))] [(.v 2)] [(.v 10)])
theorem k110 : fnX Tryz.prog (hnd Tryz.prog (gl m) inl (tabS T24)) (gl m) (ctlOf Tryz.f110 (gl m) s110) Tryz.f110 s110 = some S110 := by kernel_rfl
noncomputable def F110 : Fun := S110.run (tabF T24) false
theorem x110 : AllOk Tryz.prog (tabF T24) (gl m) (tabS T24) := A24
theorem y110 : LoopsOk (tabF T24) (ctlOf Tryz.f110 (gl m) s110) := (LoopsOk.nil rfl)
theorem z110 : (wsEm S110.em (argI s110.args) (argB s110.args) && shOk s110 && noOb S110.em) = true := by kernel_rfl
theorem d110 : Contract Tryz.prog (gl m) 110 s110 (S110.run (tabF T24) s110.pre) := contract_of (hnd_ok x110 inl_ok) Tryz.func110 y110 k110 z110
theorem c110 : Contract Tryz.prog (gl m) 110 s110 F110 := d110
theorem call110 : ∀ args w, (callFunc 110 args).run Tryz.prog w = .ok (.enter 110 args) w := callable_of Tryz.func110 (by kernel_rfl) (by kernel_rfl)
noncomputable def e110 : Nat × Sum × Fun := (110, withInl s110 S110, F110)
noncomputable def T25 : List (Nat × Sum × Fun) := e110 :: T24
theorem A25 : AllOk Tryz.prog (tabF T25) (gl m) (tabS T25) := AllOk.cons (s := e110.2.1) c110 call110 (fun S h => by cases h; exact ⟨rfl, fun _ _ => rfl⟩) A24
/-! (*seepage/core.work).eor -/
def s73 : Sum := { args := [(.ptr [(.int .u8), .bool, (.int .u8), .bool, (.int .u8), .bool, (.int .u8), .bool, (.int .u8), (.int .u8), (.int .u16), .bool, (.int .u8), (.int .i64), (.int .u16), .bool, (.int .u8), .bool, .bool, (.int .i64), .bool, .bool, (.int .i64), .bool, .bool, .str, (.int .i64), (.int .i64), (.int .i64), .bool, .bool]), (.val true [(.int .u8), .bool])], tup := true, res := [], pre := false }
def S73 : Smry := (.mk [(.di 18 (.ar .xor .u8 (.v 0) (.v 17))), (.db 15 (.not (.v 0))), (.db 16 (.not (.v 14))), (.db 17 (.not (.v 14))), (.db 18 (.not (.v 0))), (.db 19 (.ite (.v 18) (.v 14) (.v 0))), (.db 20 (.not (.v 0))), (.db 21 (.not (.v 14))), (.db 22 (.and (.v 20) (.v 21))), (.db 23 (.ite (.v 22) (.c false) (.c true))), (.call 103 [(.v 4), (.v 5), (.v 18)] [(.v 23)] 19 2 24 0)] [(.v 18), (.v 1), (.v 2), (.v 3), (.v 19), (.v 20), (.v 6), (.v 7), (.v 8), (.v 9), (.v 10), (.v 11), (.v 12), (.v 13), (.v 14), (.v 15), (.v 16)] [(.v 23), (.v 1), (.v 2), (.v 3), (.v 4), (.v 5), (.v 6), (.v 7), (.v 8), (.v 9), (.v 10), (.v 11), (.v 12), (.v 13)])
theorem k73 : fnX Tryz.prog (hnd Tryz.prog (gl m) inl (tabS T25)) (gl m) (ctlOf Tryz.f73 (gl m) s73) Tryz.f73 s73 = some S73 := by kernel_rfl
noncomputable def F73 : Fun := S73.run (tabF T25) false
theorem x73 : AllOk Tryz.prog (tabF T25) (gl m) (tabS T25) := A25
theorem y73 : LoopsOk (tabF T25) (ctlOf Tryz.f73 (gl m) s73) := (LoopsOk.nil rfl)
theorem z73 : (wsEm S73.em (argI s73.args) (argB s73.args) && shOk s73 && noOb S73.em) = true := by kernel_rfl
theorem d73 : Contract Tryz.prog (gl m) 73 s73 (S73.run (tabF T25) s73.pre) := contract_of (hnd_ok x73 inl_ok) Tryz.func73 y73 k73 z73
theorem c73 : Contract Tryz.prog (gl m) 73 s73 F73 := d73
theorem call73 : ∀ args w, (callFunc 73 args).run Tryz.prog w = .ok (.enter 73 args) w := callable_of Tryz.func73 (by kernel_rfl) (by kernel_rfl)
noncomputable def e73 : Nat × Sum × Fun := (73, s73, F73)
noncomputable def T26 : List (Nat × Sum × Fun) := e73 :: T25
theorem A26 : AllOk Tryz.prog (tabF T26) (gl m) (tabS T26) := AllOk.cons (s := e73.2.1) c73 call73 (fun S h => by cases h) A25
/-! seepage/alu.Adc -/
def s111 : Sum := { args := [(.val true [(.int .u8), (.int .u8)]), (.val true [(.int .u8), .bool]), (.val true [(.int .u8), .bool])], tup := true, res := [(true, [(.int .u8), .bool]), (true, [(.int .u8), (.int .u8)])], pre := false }
def S111 : Smry := (.mk [(.di 4 (.ar .and .u8 (.v 1) (.c 1))), (.db 2 (.cm .gtr (.v 4) (.c 0))), (.di 5 (.ar .and .u8 (.v 0) (.c 1))), (.db 3 (.cm .gtr (.v 5) (.c 0))), (.di 6 (.ite (.v 3) (.c 1) (.c 0))), (.di 7 (.cv .u64 (.v 2))), (.di 8 (.cv .u64 (.v 3))), (.di 9 (.ar .add .u64 (.v 7) (.v 8))), (.di 10 (.cv .u64 (.v 6))), (.di 11 (.ar .add .u64 (.v 9) (.v 10))), (.di 12 (.cv .u8 (.v 11))), (.db 4 (.not (.v 0))), (.db 5 (.not (.v 1))), (.db 6 (.not (.v 2))), (.db 7 (.not (.v 2))), (.db 8 (.not (.v 1))), (.db 9 (.ite (.v 8) (.v 2) (.v 1))), (.db 10 (.not (.v 0))), (.db 11 (.ite (.v 10) (.v 9) (.v 0))), (.db 12 (.not (.v 0))), (.db 13 (.not (.v 1))), (.db 14 (.not (.v 2))), (.db 15 (.and (.v 13) (.v 14))), (.db 16 (.and (.v 12) (.v 15))), (.db 17 (.ite (.v 16) (.c false) (.c true))), (.di 13 (.ar .xor .u8 (.v 2) (.v 3))), (.di 14 (.ar .xor .u8 (.c 255) (.v 13))), (.di 15 (.ar .xor .u8 (.v 2) (.v 12))), (.di 16 (.ar .and .u8 (.v 14) (.v 15))), (.di 17 (.ar .and .u8 (.v 16) (.c 128))), (.db 18 (.cm .gtr (.v 11) (.c 255))), (.db 19 (.not (.v 17))), (.db 20 (.not (.v 17))), (.db 21 (.not (.v 17))), (.db 22 (.ite (.v 21) (.c false) (.c true))), (.db 23 (.not (.v 17))), (.db 24 (.not (.v 17))), (.db 25 (.not (.v 17))), (.db 26 (.ite (.v 25) (.c false) (.c true))), (.db 27 (.not (.v 18))), (.di 18 (.ite (.v 27) (.c 0) (.c 1))), (.db 28 (.ite (.v 27) (.v 26) (.v 22))), (.call 105 [(.v 0), (.v 1), (.c 1), (.v 18)] [(.v 28)] 19 2 29 0), (.db 29 (.cm .gtr (.v 17) (.c 0))), (.db 30 (.not (.v 17))), (.db 31 (.not (.v 17))), (.db 32 (.not (.v 17))), (.db 33 (.ite (.v 32) (.c false) (.c true))), (.db 34 (.not (.v 17))), (.db 35 (.not (.v 17))), (.db 36 (.not (.v 17))), (.db 37 (.ite (.v 36) (.c false) (.c true))), (.db 38 (.not (.v 29))), (.di 21 (.ite (.v 38) (.c 0) (.c 1))), (.db 39 (.ite (.v 38) (.v 37) (.v 33))), (.call 105 [(.v 19), (.v 20), (.c 64), (.v 21)] [(.v 39)] 22 2 40 0), (.call 103 [(.v 22), (.v 23), (.v 12)] [(.v 17)] 24 2 40 0)] [(.v 12), (.v 24), (.v 25)] [(.v 17)])
theorem k111 : fnX Tryz.prog (hnd Tryz.prog (gl m) inl (tabS T26)) (gl m) (ctlOf Tryz.f111 (gl m) s111) Tryz.f111 s111 = some S111 := by kernel_rfl
noncomputable def F111 : Fun := S111.run (tabF T26) false
theorem x111 : AllOk Tryz.prog (tabF T26) (gl m) (tabS T26) := A26
theorem y111 : LoopsOk (tabF T26) (ctlOf Tryz.f111 (gl m) s111) := (LoopsOk.nil rfl)
theorem z111 : (wsEm S111.em (argI s111.args) (argB s111.args) && shOk s111 && noOb S111.em) = true := by kernel_rfl
theorem d111 : Contract Tryz.prog (gl m) 111 s111 (S111.run (tabF T26) s111.pre) := contract_of (hnd_ok x111 inl_ok) Tryz.func111 y111 k111 z111
theorem c111 : Contract Tryz.prog (gl m) 111 s111 F111 := d111
theorem call111 : ∀ args w, (callFunc 111 args).run Tryz.prog w = .ok (.enter 111 args) w := callable_of Tryz.func111 (by kernel_rfl) (by kernel_rfl)
noncomputable def e111 : Nat × Sum × Fun := (111, s111, F111)
noncomputable def T27 : List (Nat × Sum × Fun) := e111 :: T26
theorem A27 : AllOk Tryz.prog (tabF T27) (gl m) (tabS T27) := AllOk.cons (s := e111.2.1) c111 call111 (fun S h => by cases h) A26
/-! (*seepage/core.work).adc -/
def s74 : Sum := { args := [(.ptr [(.int .u8), .bool, (.int .u8), .bool, (.int .u8), .bool, (.int .u8), .bool, (.int .u8), (.int .u8), (.int .u16), .bool, (.int .u8), (.int .i64), (.int .u16), .bool, (.int .u8), .bool, .bool, (.int .i64), .bool, .bool, (.int .i64), .bool, .bool, .str, (.int .i64), (.int .i64), (.int .i64), .bool, .bool]), (.val true [(.int .u8), .bool])], tup := true, res := [], pre := false }
def S74 : Smry := (.mk [(.call 111 [(.v 4), (.v 5), (.v 0), (.v 17)] [(.v 0), (.v 14)] 18 3 15 1)] [(.v 18), (.v 1), (.v 2), (.v 3), (.v 19), (.v 20), (.v 6), (.v 7), (.v 8), (.v 9), (.v 10), (.v 11), (.v 12), (.v 13), (.v 14), (.v 15), (.v 16)] [(.v 15), (.v 1), (.v 2), (.v 3), (.v 4), (.v 5), (.v 6), (.v 7), (.v 8), (.v 9), (.v 10), (.v 11), (.v 12), (.v 13)])
theorem k74 : fnX Tryz.prog (hnd Tryz.prog (gl m) inl (tabS T27)) (gl m) (ctlOf Tryz.f74 (gl m) s74) Tryz.f74 s74 = some S74 := by kernel_rfl
noncomputable def F74 : Fun := S74.run (tabF T27) false
theorem x74 : AllOk Tryz.prog (tabF T27) (gl m) (tabS T27) := A27
theorem y74 : LoopsOk (tabF T27) (ctlOf Tryz.f74 (gl m) s74) := (LoopsOk.nil rfl)
theorem z74 : (wsEm S74.em (argI s74.args) (argB s74.args) && shOk s74 && noOb S74.em) = true := by kernel_rfl
theorem d74 : Contract Tryz.prog (gl m) 74 s74 (S74.run (tabF T27) s74.pre) := contract_of (hnd_ok x74 inl_ok) Tryz.func74 y74 k74 z74
theorem c74 : Contract Tryz.prog (gl m) 74 s74 F74 := d74
theorem call74 : ∀ args w, (callFunc 74 args).run Tryz.prog w = .ok (.enter 74 args) w := callable_of Tryz.func74 (by kernel_rfl) (by kernel_rfl)
noncomputable def e74 : Nat × Sum × Fun := (74, s74, F74)
noncomputable def T28 : List (Nat × Sum × Fun) := e74 :: T27
theorem A28 : AllOk Tryz.prog (tabF T28) (gl m) (tabS T28) := AllOk.cons (s := e74.2.1) c74 call74 (fun S h => by cases h) A27
end Go.Proofs.YtalnndmnnffnmaaGreat.Cr
