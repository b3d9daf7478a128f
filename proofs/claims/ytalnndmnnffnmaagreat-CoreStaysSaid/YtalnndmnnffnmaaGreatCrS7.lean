/-
  The walks of core's laws: what each function answers, by the executor (part 7). WRITTEN BY PROGRAM (wip/dev/Drv3.lean). No condition.
-/
import Derived.Test.YtalnndmnnffnmaaGreatCrS6
set_option linter.unusedVariables false
set_option linter.unusedSimpArgs false
namespace Go.Proofs.YtalnndmnnffnmaaGreat.Cr
open Go Go.Proofs Go.Proofs.YtalnndmnnffnmaaGreat.Sx
variable {m : Int}

/-! seepage/seepagelaw10.CoreStays -/
def s5 : Sum := { args := [(.val true [(.int .u8), .bool, (.int .u8), .bool, (.int .u8), .bool, (.int .u8), .bool, (.int .u8), (.int .u8), (.int .u16), .bool, (.int .u8), (.int .i64), (.int .u16), .bool, (.int .u8), .bool, .bool, (.int .i64), .bool, .bool, (.int .i64), .bool, .bool]), (.sli [(.int .u8), .bool, (.int .u8), .bool, (.int .u8), .bool, (.int .u8), .bool, (.int .u8), (.int .u8), (.int .u16), .bool, (.int .u8), (.int .i64), (.int .u16), .bool, (.int .u8), .bool, .bool, (.int .i64), .bool, .bool, (.int .i64), .bool, .bool, (.int .u8), .bool, .bool, .bool, .bool])], tup := false, res := [(false, [.bool])], pre := true }
def S5 : Smry := (.mk [(.call 15 [(.v 0), (.v 1), (.v 2), (.v 3), (.v 4), (.v 5), (.v 6), (.v 7), (.v 8), (.v 9), (.v 10), (.v 11), (.v 12)] [(.v 0), (.v 1), (.v 2), (.v 3), (.v 4), (.v 5), (.v 6), (.v 7), (.v 8), (.v 9), (.v 10), (.v 11)] 15 1 12 0), (.db 12 (.cm .neq (.v 15) (.c 0))), (.call 9 [] [] 16 0 13 2), (.ob [((.v 12), true)] (.v 13)), (.call 100500 [(.v 13), (.v 14), (.c 0), (.v 0), (.v 1), (.v 2), (.v 3), (.v 4), (.v 5), (.v 6), (.v 7), (.v 8), (.v 9), (.v 10), (.v 11), (.v 12)] [(.v 0), (.v 1), (.v 2), (.v 3), (.v 4), (.v 5), (.v 6), (.v 7), (.v 8), (.v 9), (.v 10), (.v 11)] 16 0 15 3), (.ob [((.v 12), false)] (.v 15)), (.call 9 [] [] 16 0 18 2), (.ob [((.v 12), false), ((.v 17), true)] (.v 18)), (.db 20 (.and (.v 17) (.v 19))), (.db 21 (.not (.v 12))), (.db 22 (.ite (.v 21) (.v 20) (.v 14)))] [] [(.v 22)])
def L100500 : LAnn := { id := 100500, ga := [13, 14], gb := [], hv := [5], dr := [3, 10, 11, 13, 14, 15, 16, 17, 18, 19, 20, 22, 23, 24, 25, 26, 27, 28, 29, 30, 31, 32, 33, 34, 35, 36, 37, 38, 39, 40, 41, 42, 43, 44, 45, 46, 47, 48, 49, 50, 51, 52, 53, 54, 55, 56, 57, 58, 59, 60, 61, 62, 63, 64, 65, 66, 67, 68, 69, 70, 71, 72, 73, 74, 75, 76, 77, 79, 80], hb := [2], db := [], xs := [4], xb := [], nI := 16, nB := 12, S := (.mk [(.db 12 (.cm .lss (.v 2) (.v 1))), (.db 13 (.cm .lss (.v 2) (.c 60))), (.db 14 (.and (.v 12) (.v 13))), (.db 15 (.cm .geq (.v 2) (.c 0))), (.ob [((.v 14), true)] (.v 15)), (.db 16 (.cm .lss (.v 2) (.v 1))), (.ob [((.v 14), true)] (.v 16)), (.di 16 (.get (.v 0) (.v 2) 30 25)), (.db 17 (.getb (.v 0) (.v 2) 30 26)), (.db 18 (.cm .geq (.v 2) (.c 0))), (.ob [((.v 14), true)] (.v 18)), (.db 19 (.cm .lss (.v 2) (.v 1))), (.ob [((.v 14), true)] (.v 19)), (.db 20 (.getb (.v 0) (.v 2) 30 27)), (.db 21 (.getb (.v 0) (.v 2) 30 28)), (.db 22 (.getb (.v 0) (.v 2) 30 29)), (.call 13 [(.v 3), (.v 4), (.v 5), (.v 6), (.v 7), (.v 8), (.v 9), (.v 10), (.v 11), (.v 12), (.v 13), (.v 14), (.v 15), (.v 16)] [(.v 0), (.v 1), (.v 2), (.v 3), (.v 4), (.v 5), (.v 6), (.v 7), (.v 8), (.v 9), (.v 10), (.v 11), (.v 17), (.v 20), (.v 21), (.v 22)] 17 14 23 13), (.ob [((.v 14), true)] (.v 23)), (.db 36 (.cm .geq (.v 2) (.c 0))), (.ob [((.v 14), true)] (.v 36)), (.db 37 (.cm .lss (.v 2) (.v 1))), (.ob [((.v 14), true)] (.v 37)), (.db 38 (.getb (.v 0) (.v 2) 30 27)), (.db 39 (.getb (.v 0) (.v 2) 30 28)), (.db 40 (.getb (.v 0) (.v 2) 30 29)), (.call 16 [(.v 3), (.v 4), (.v 5), (.v 6), (.v 7), (.v 8), (.v 9), (.v 10), (.v 11), (.v 12), (.v 13), (.v 14), (.v 15)] [(.v 0), (.v 1), (.v 2), (.v 3), (.v 4), (.v 5), (.v 6), (.v 7), (.v 8), (.v 9), (.v 10), (.v 11), (.v 38), (.v 39), (.v 40)] 31 14 41 12), (.db 53 (.cm .neq (.v 30) (.c 0))), (.db 54 (.cm .neq (.v 44) (.c 0))), (.db 55 (.or (.v 53) (.v 54))), (.call 15 [(.v 17), (.v 18), (.v 19), (.v 20), (.v 21), (.v 22), (.v 23), (.v 24), (.v 25), (.v 26), (.v 27), (.v 28), (.v 29)] [(.v 24), (.v 25), (.v 26), (.v 27), (.v 28), (.v 29), (.v 30), (.v 31), (.v 32), (.v 33), (.v 34), (.v 35)] 45 1 56 0), (.db 56 (.cm .neq (.v 45) (.c 0))), (.db 57 (.or (.v 55) (.v 56))), (.call 15 [(.v 31), (.v 32), (.v 33), (.v 34), (.v 35), (.v 36), (.v 37), (.v 38), (.v 39), (.v 40), (.v 41), (.v 42), (.v 43)] [(.v 41), (.v 42), (.v 43), (.v 44), (.v 45), (.v 46), (.v 47), (.v 48), (.v 49), (.v 50), (.v 51), (.v 52)] 46 1 58 0), (.db 58 (.cm .neq (.v 46) (.c 0))), (.db 59 (.or (.v 57) (.v 58))), (.db 60 (.not (.v 34))), (.db 61 (.not (.v 51))), (.db 62 (.or (.v 60) (.v 61))), (.db 63 (.and (.v 10) (.v 62))), (.db 64 (.or (.v 59) (.v 63))), (.db 65 (.not (.v 64))), (.di 47 (.ar .add .i64 (.v 2) (.c 1))), (.db 66 (.not (.v 64))), (.db 67 (.not (.v 64))), (.db 68 (.and (.v 14) (.v 67))), (.db 69 (.and (.v 14) (.v 64))), (.db 70 (.not (.v 14)))] [(.v 0), (.v 1), (.v 47), (.v 17), (.v 18), (.v 19), (.v 20), (.v 21), (.v 22), (.v 23), (.v 24), (.v 25), (.v 26), (.v 27), (.v 28), (.v 29)] [(.v 68), (.v 24), (.v 25), (.v 26), (.v 27), (.v 28), (.v 29), (.v 30), (.v 31), (.v 32), (.v 33), (.v 34), (.v 35), (.v 69), (.v 70)]) }
def l5 : List (Nat × LAnn) := [(5, L100500)]
theorem k5 : fnX Tryz.prog (hnd Tryz.prog (gl m) inl (tabS T78)) (gl m) (ctlL Tryz.f5 (gl m) s5 l5) Tryz.f5 s5 = some S5 := by kernel_rfl
noncomputable def F5 : Fun := S5.run (lpF (l5.map (·.2)) (tabF T78)) true
theorem x5 : AllOk Tryz.prog (lpF (l5.map (·.2)) (tabF T78)) (gl m) (tabS T78) := (AllOk.loops (l := l5.map (·.2)) A78 (by kernel_rfl))
theorem y5 : LoopsOk (lpF (l5.map (·.2)) (tabF T78)) (ctlL Tryz.f5 (gl m) s5 l5) := (LoopsOk.of (fn := Tryz.f5) (gl := (gl m)) (s := s5) (l := l5) (by kernel_rfl))
theorem z5 : (wsEm S5.em (argI s5.args) (argB s5.args) && shOk s5 && s5.pre) = true := by kernel_rfl
theorem d5 : Contract Tryz.prog (gl m) 5 s5 (S5.run (lpF (l5.map (·.2)) (tabF T78)) s5.pre) := contract_pre (hnd_ok x5 inl_ok) Tryz.func5 y5 k5 z5
theorem c5 : Contract Tryz.prog (gl m) 5 s5 F5 := d5
theorem call5 : ∀ args w, (callFunc 5 args).run Tryz.prog w = .ok (.enter 5 args) w := callable_of Tryz.func5 (by kernel_rfl) (by kernel_rfl)
noncomputable def e5 : Nat × Sum × Fun := (5, s5, F5)
noncomputable def T79 : List (Nat × Sum × Fun) := e5 :: T78
theorem A79 : AllOk Tryz.prog (tabF T79) (gl m) (tabS T79) := AllOk.cons (s := e5.2.1) c5 call5 (fun S h => by cases h) A78
/-! seepage/label.Erase -/
def s38 : Sum := { args := [(.val true [(.int .u8), .bool])], tup := false, res := [(true, [(.int .u8), .bool])], pre := false }
def S38 : Smry := (.mk [] [(.v 0)] [(.c false)])
theorem k38 : fnX Tryz.prog (hnd Tryz.prog (gl m) inl (tabS T79)) (gl m) (ctlOf Tryz.f38 (gl m) s38) Tryz.f38 s38 = some S38 := by kernel_rfl
noncomputable def F38 : Fun := S38.run (tabF T79) false
theorem x38 : AllOk Tryz.prog (tabF T79) (gl m) (tabS T79) := A79
theorem y38 : LoopsOk (tabF T79) (ctlOf Tryz.f38 (gl m) s38) := (LoopsOk.nil rfl)
theorem z38 : (wsEm S38.em (argI s38.args) (argB s38.args) && shOk s38 && noOb S38.em) = true := by kernel_rfl
theorem d38 : Contract Tryz.prog (gl m) 38 s38 (S38.run (tabF T79) s38.pre) := contract_of (hnd_ok x38 inl_ok) Tryz.func38 y38 k38 z38
theorem c38 : Contract Tryz.prog (gl m) 38 s38 F38 := d38
theorem call38 : ∀ args w, (callFunc 38 args).run Tryz.prog w = .ok (.enter 38 args) w := callable_of Tryz.func38 (by kernel_rfl) (by kernel_rfl)
noncomputable def e38 : Nat × Sum × Fun := (38, withInl s38 S38, F38)
noncomputable def T80 : List (Nat × Sum × Fun) := e38 :: T79
theorem A80 : AllOk Tryz.prog (tabF T80) (gl m) (tabS T80) := AllOk.cons (s := e38.2.1) c38 call38 (fun S h => by cases h; exact ⟨rfl, fun _ _ => rfl⟩) A79
/-! seepage/seepageref08.clean -/
def s24 : Sum := { args := [(.val false [(.int .u8)])], tup := false, res := [(false, [(.int .u8)])], pre := false }
def S24 : Smry := (.mk [(.di 1 (.ar .rem .u8 (.v 0) (.c 16))), (.di 2 (.ar .quo .u8 (.v 0) (.c 64))), (.di 3 (.ar .mul .u8 (.v 2) (.c 64))), (.di 4 (.ar .add .u8 (.v 1) (.v 3)))] [(.v 4)] [])
theorem k24 : fnX Tryz.prog (hnd Tryz.prog (gl m) inl (tabS T80)) (gl m) (ctlOf Tryz.f24 (gl m) s24) Tryz.f24 s24 = some S24 := by kernel_rfl
noncomputable def F24 : Fun := S24.run (tabF T80) false
theorem x24 : AllOk Tryz.prog (tabF T80) (gl m) (tabS T80) := A80
theorem y24 : LoopsOk (tabF T80) (ctlOf Tryz.f24 (gl m) s24) := (LoopsOk.nil rfl)
theorem z24 : (wsEm S24.em (argI s24.args) (argB s24.args) && shOk s24 && noOb S24.em) = true := by kernel_rfl
theorem d24 : Contract Tryz.prog (gl m) 24 s24 (S24.run (tabF T80) s24.pre) := contract_of (hnd_ok x24 inl_ok) Tryz.func24 y24 k24 z24
theorem c24 : Contract Tryz.prog (gl m) 24 s24 F24 := d24
theorem call24 : ∀ args w, (callFunc 24 args).run Tryz.prog w = .ok (.enter 24 args) w := callable_of Tryz.func24 (by kernel_rfl) (by kernel_rfl)
noncomputable def e24 : Nat × Sum × Fun := (24, withInl s24 S24, F24)
noncomputable def T81 : List (Nat × Sum × Fun) := e24 :: T80
theorem A81 : AllOk Tryz.prog (tabF T81) (gl m) (tabS T81) := AllOk.cons (s := e24.2.1) c24 call24 (fun S h => by cases h; exact ⟨rfl, fun _ _ => rfl⟩) A80
/-! seepage/seepageref08.Check -/
def s12 : Sum := { args := [(.val true [(.int .u8), (.int .u8)])], tup := false, res := [(true, [(.int .u8), (.int .u8)])], pre := false }
def S12 : Smry := (.mk [(.di 2 (.ar .rem .u8 (.v 0) (.c 16))), (.di 3 (.ar .quo .u8 (.v 0) (.c 64))), (.di 4 (.ar .mul .u8 (.v 3) (.c 64))), (.di 5 (.ar .add .u8 (.v 2) (.v 4))), (.di 6 (.ar .rem .u8 (.v 1) (.c 16))), (.di 7 (.ar .quo .u8 (.v 1) (.c 64))), (.di 8 (.ar .mul .u8 (.v 7) (.c 64))), (.di 9 (.ar .add .u8 (.v 6) (.v 8)))] [(.v 5), (.v 9)] [])
theorem k12 : fnX Tryz.prog (hnd Tryz.prog (gl m) inl (tabS T81)) (gl m) (ctlOf Tryz.f12 (gl m) s12) Tryz.f12 s12 = some S12 := by kernel_rfl
noncomputable def F12 : Fun := S12.run (tabF T81) false
theorem x12 : AllOk Tryz.prog (tabF T81) (gl m) (tabS T81) := A81
theorem y12 : LoopsOk (tabF T81) (ctlOf Tryz.f12 (gl m) s12) := (LoopsOk.nil rfl)
theorem z12 : (wsEm S12.em (argI s12.args) (argB s12.args) && shOk s12 && noOb S12.em) = true := by kernel_rfl
theorem d12 : Contract Tryz.prog (gl m) 12 s12 (S12.run (tabF T81) s12.pre) := contract_of (hnd_ok x12 inl_ok) Tryz.func12 y12 k12 z12
theorem c12 : Contract Tryz.prog (gl m) 12 s12 F12 := d12
theorem call12 : ∀ args w, (callFunc 12 args).run Tryz.prog w = .ok (.enter 12 args) w := callable_of Tryz.func12 (by kernel_rfl) (by kernel_rfl)
noncomputable def e12 : Nat × Sum × Fun := (12, withInl s12 S12, F12)
noncomputable def T82 : List (Nat × Sum × Fun) := e12 :: T81
theorem A82 : AllOk Tryz.prog (tabF T82) (gl m) (tabS T82) := AllOk.cons (s := e12.2.1) c12 call12 (fun S h => by cases h; exact ⟨rfl, fun _ _ => rfl⟩) A81
end Go.Proofs.YtalnndmnnffnmaaGreat.Cr
