/-
  The walk of CoreInterrupts: what each function answers, by the executor; its numbers, written out. WRITTEN BY PROGRAM (wip/dev/Drv3.lean, wip/gen/crci.py). No condition.
-/
import Derived.Test.YtalnndmnnffnmaaGreatCrIe
set_option linter.unusedVariables false
set_option linter.unusedSimpArgs false
namespace Go.Proofs.YtalnndmnnffnmaaGreat.Cr
open Go Go.Proofs Go.Proofs.YtalnndmnnffnmaaGreat.Sx
variable {m : Int}

/-! seepage/seepageref08.clean -/
def s24 : Sum := { args := [(.val false [(.int .u8)])], tup := false, res := [(false, [(.int .u8)])], pre := false }
def S24 : Smry := (.mk [(.di 1 (.ar .rem .u8 (.v 0) (.c 16))), (.di 2 (.ar .quo .u8 (.v 0) (.c 64))), (.di 3 (.ar .mul .u8 (.v 2) (.c 64))), (.di 4 (.ar .add .u8 (.v 1) (.v 3)))] [(.v 4)] [])
theorem k24 : fnX Tryz.prog (hnd Tryz.prog (gl m) inl (tabS T78)) (gl m) (ctlOf Tryz.f24 (gl m) s24) Tryz.f24 s24 = some S24 := by kernel_rfl
noncomputable def F24 : Fun := S24.run (tabF T78) false
theorem x24 : AllOk Tryz.prog (tabF T78) (gl m) (tabS T78) := A78
theorem y24 : LoopsOk (tabF T78) (ctlOf Tryz.f24 (gl m) s24) := (LoopsOk.nil rfl)
theorem z24 : (wsEm S24.em (argI s24.args) (argB s24.args) && shOk s24 && noOb S24.em) = true := by kernel_rfl
theorem d24 : Contract Tryz.prog (gl m) 24 s24 (S24.run (tabF T78) s24.pre) := contract_of (hnd_ok x24 inl_ok) Tryz.func24 y24 k24 z24
theorem c24 : Contract Tryz.prog (gl m) 24 s24 F24 := d24
theorem call24 : ∀ args w, (callFunc 24 args).run Tryz.prog w = .ok (.enter 24 args) w := callable_of Tryz.func24 (by kernel_rfl) (by kernel_rfl)
noncomputable def e24 : Nat × Sum × Fun := (24, withInl s24 S24, F24)
noncomputable def TI1 : List (Nat × Sum × Fun) := e24 :: T78
theorem AI1 : AllOk Tryz.prog (tabF TI1) (gl m) (tabS TI1) := AllOk.cons (s := e24.2.1) c24 call24 (fun S h => by cases h; exact ⟨rfl, fun _ _ => rfl⟩) A78
/-! seepage/seepageref08.Check -/
def s12 : Sum := { args := [(.val true [(.int .u8), (.int .u8)])], tup := false, res := [(true, [(.int .u8), (.int .u8)])], pre := false }
def S12 : Smry := (.mk [(.di 2 (.ar .rem .u8 (.v 0) (.c 16))), (.di 3 (.ar .quo .u8 (.v 0) (.c 64))), (.di 4 (.ar .mul .u8 (.v 3) (.c 64))), (.di 5 (.ar .add .u8 (.v 2) (.v 4))), (.di 6 (.ar .rem .u8 (.v 1) (.c 16))), (.di 7 (.ar .quo .u8 (.v 1) (.c 64))), (.di 8 (.ar .mul .u8 (.v 7) (.c 64))), (.di 9 (.ar .add .u8 (.v 6) (.v 8)))] [(.v 5), (.v 9)] [])
theorem k12 : fnX Tryz.prog (hnd Tryz.prog (gl m) inl (tabS TI1)) (gl m) (ctlOf Tryz.f12 (gl m) s12) Tryz.f12 s12 = some S12 := by kernel_rfl
noncomputable def F12 : Fun := S12.run (tabF TI1) false
theorem x12 : AllOk Tryz.prog (tabF TI1) (gl m) (tabS TI1) := AI1
theorem y12 : LoopsOk (tabF TI1) (ctlOf Tryz.f12 (gl m) s12) := (LoopsOk.nil rfl)
theorem z12 : (wsEm S12.em (argI s12.args) (argB s12.args) && shOk s12 && noOb S12.em) = true := by kernel_rfl
theorem d12 : Contract Tryz.prog (gl m) 12 s12 (S12.run (tabF TI1) s12.pre) := contract_of (hnd_ok x12 inl_ok) Tryz.func12 y12 k12 z12
theorem c12 : Contract Tryz.prog (gl m) 12 s12 F12 := d12
theorem call12 : ∀ args w, (callFunc 12 args).run Tryz.prog w = .ok (.enter 12 args) w := callable_of Tryz.func12 (by kernel_rfl) (by kernel_rfl)
noncomputable def e12 : Nat × Sum × Fun := (12, withInl s12 S12, F12)
noncomputable def TI2 : List (Nat × Sum × Fun) := e12 :: TI1
theorem AI2 : AllOk Tryz.prog (tabF TI2) (gl m) (tabS TI2) := AllOk.cons (s := e12.2.1) c12 call12 (fun S h => by cases h; exact ⟨rfl, fun _ _ => rfl⟩) AI1
/-! seepage/seepagelaw10.CoreInterrupts -/
def s4 : Sum := { args := [(.val true [(.int .u8), .bool, (.int .u8), .bool, (.int .u8), .bool, (.int .u8), .bool, (.int .u8), (.int .u8), (.int .u16), .bool, (.int .u8), (.int .i64), (.int .u16), .bool, (.int .u8), .bool, .bool, (.int .i64), .bool, .bool, (.int .i64), .bool, .bool]), (.val false [.bool]), (.val false [(.int .u8)])], tup := false, res := [(false, [.bool])], pre := true }
def S4 : Smry := (.mk [(.di 14 (.ar .rem .u8 (.v 4) (.c 16))), (.di 15 (.ar .quo .u8 (.v 4) (.c 64))), (.di 16 (.ar .mul .u8 (.v 15) (.c 64))), (.di 17 (.ar .add .u8 (.v 14) (.v 16))), (.di 18 (.ar .rem .u8 (.v 5) (.c 16))), (.di 19 (.ar .quo .u8 (.v 5) (.c 64))), (.di 20 (.ar .mul .u8 (.v 19) (.c 64))), (.di 21 (.ar .add .u8 (.v 18) (.v 20))), (.db 13 (.not (.v 12))), (.call 13 [(.v 0), (.v 1), (.v 2), (.v 3), (.v 17), (.c 0), (.v 6), (.c 0), (.c 0), (.c 0), (.c 0), (.c 0), (.c 0), (.c 234)] [(.v 0), (.v 1), (.v 2), (.c false), (.c false), (.c false), (.c false), (.c false), (.c false), (.c false), (.c false), (.c false), (.c false), (.v 13), (.v 12), (.c false)] 22 14 14 13), (.ob [] (.v 14)), (.call 13 [(.v 22), (.v 23), (.v 24), (.v 25), (.v 26), (.v 27), (.v 28), (.v 29), (.v 30), (.v 31), (.v 32), (.v 33), (.v 34), (.v 13)] [(.v 15), (.v 16), (.v 17), (.v 18), (.v 19), (.v 20), (.v 21), (.v 22), (.v 23), (.v 24), (.v 25), (.v 26), (.c false), (.v 13), (.v 12), (.c false)] 36 14 27 13), (.ob [] (.v 27)), (.di 50 (.ar .and .u8 (.v 17) (.c 4))), (.db 40 (.cm .eql (.v 50) (.c 0))), (.db 41 (.or (.v 12) (.v 40))), (.db 42 (.cm .neq (.v 35) (.c 0))), (.db 43 (.cm .neq (.v 49) (.c 0))), (.db 44 (.or (.v 42) (.v 43))), (.db 45 (.cm .neq (.v 44) (.c 0))), (.db 46 (.or (.v 44) (.v 45))), (.db 47 (.cm .neq (.v 47) (.c 0))), (.db 48 (.eqb (.v 47) (.v 41))), (.db 49 (.not (.v 48))), (.db 50 (.or (.v 46) (.v 49))), (.di 51 (.ar .add .u16 (.v 6) (.c 1))), (.db 51 (.cm .neq (.v 42) (.v 51))), (.db 52 (.or (.v 50) (.v 51))), (.db 53 (.not (.v 41))), (.call 9 [] [] 52 0 54 2), (.ob [((.v 52), false), ((.v 53), true)] (.v 54)), (.di 52 (.ar .quo .u16 (.v 42) (.c 256))), (.di 53 (.cv .u8 (.v 52))), (.di 54 (.ar .rem .u16 (.v 42) (.c 256))), (.di 55 (.cv .u8 (.v 54))), (.di 56 (.ar .or .u8 (.v 40) (.c 32))), (.call 100400 [(.v 3), (.v 13), (.v 53), (.v 55), (.v 56), (.c 0), (.v 36), (.v 37), (.v 38), (.v 39), (.v 40), (.v 41), (.v 42), (.v 43), (.v 44), (.v 45), (.v 46), (.v 47), (.v 48)] [(.v 12), (.v 13), (.v 28), (.v 29), (.v 30), (.v 31), (.v 32), (.v 33), (.v 34), (.v 35), (.v 36), (.v 37), (.v 38), (.v 39)] 57 13 56 15), (.ob [((.v 52), false), ((.v 53), false)] (.v 56)), (.call 13 [(.v 22), (.v 23), (.v 24), (.v 25), (.v 26), (.v 27), (.v 28), (.v 29), (.v 30), (.v 31), (.v 32), (.v 33), (.v 34), (.v 13)] [(.v 15), (.v 16), (.v 17), (.v 18), (.v 19), (.v 20), (.v 21), (.v 22), (.v 23), (.v 24), (.v 25), (.v 26), (.c false), (.c false), (.c false), (.c true)] 70 14 71 13), (.ob [((.v 52), false), ((.v 53), false), ((.v 58), true)] (.v 71)), (.db 84 (.cm .eql (.v 65) (.c 0))), (.db 85 (.cm .eql (.v 68) (.c 0))), (.db 86 (.and (.v 84) (.v 85))), (.di 84 (.cv .u16 (.v 13))), (.di 85 (.ar .mul .u16 (.v 84) (.c 257))), (.db 87 (.cm .eql (.v 63) (.v 85))), (.db 88 (.and (.v 86) (.v 87))), (.di 86 (.ar .and .u8 (.v 61) (.c 4))), (.db 89 (.cm .gtr (.v 86) (.c 0))), (.db 90 (.and (.v 88) (.v 89))), (.db 91 (.not (.v 68))), (.db 92 (.and (.v 90) (.v 91))), (.db 93 (.cm .eql (.v 83) (.c 0))), (.db 94 (.and (.v 92) (.v 93))), (.db 95 (.cm .eql (.v 78) (.c 0))), (.db 96 (.and (.v 94) (.v 95))), (.db 97 (.cm .eql (.v 81) (.c 3))), (.db 98 (.and (.v 96) (.v 97))), (.call 9 [] [] 87 0 99 2), (.ob [((.v 52), false), ((.v 53), false), ((.v 58), true), ((.v 98), true)] (.v 99)), (.db 101 (.and (.v 98) (.v 100))), (.db 102 (.and (.v 58) (.v 101))), (.db 103 (.not (.v 53))), (.db 104 (.ite (.v 103) (.v 102) (.v 55))), (.db 105 (.not (.v 52))), (.db 106 (.and (.v 105) (.v 104)))] [] [(.v 106)])
def L100400 : LAnn := { id := 100400, ga := [3, 13, 53, 55, 56], gb := [12, 13], hv := [15], dr := [4, 5, 21, 22, 23, 24, 25, 26, 27, 28, 29, 30, 31, 32, 33, 34, 35, 36, 37, 38, 39, 40, 41, 42, 43, 44, 45, 46, 47, 48, 49, 50, 51, 52, 53, 54, 55, 56, 57, 58, 59, 60, 61, 62, 63, 64, 65, 66, 67, 68, 69, 70, 71, 72, 73, 74, 75, 76, 77, 78, 79, 80, 81, 82, 83, 84, 85, 86, 87, 88, 89, 90, 92, 94, 95, 96, 97, 98, 99, 100, 101, 102, 103, 104, 105, 106, 107, 108, 109, 111, 112, 113, 114, 115, 116, 117, 118, 119, 120, 121, 122, 123, 124, 125, 126, 127, 128, 129, 130, 131, 132, 133, 134, 135, 136, 137, 138, 139, 140, 141, 142, 143, 144, 145, 146, 147, 148, 149, 150, 151, 152, 153, 154, 155, 156, 157, 158, 159, 160, 161, 163, 164, 165, 166, 167, 168, 169, 170, 171, 172, 173, 174, 175, 176, 177, 178, 179, 180, 181, 182, 183, 185, 186, 187, 188, 189, 190, 191, 192, 193, 195, 196, 197, 198, 199, 200, 201, 202, 203, 204, 205, 206, 207, 208, 209, 210, 211, 212, 213, 214, 215, 216, 217, 218, 219, 220, 221, 222, 223, 224, 225, 226, 227, 228, 229, 230, 231, 232, 233, 234, 235, 236, 237, 238, 239, 240, 241, 242, 243, 244, 245, 246, 247, 248], hb := [6], db := [], xs := [6], xb := [6], nI := 19, nB := 14, S := (.mk [(.db 14 (.cm .lss (.v 5) (.c 7))), (.call 14 [(.v 6), (.v 7), (.v 8), (.v 9), (.v 10), (.v 11), (.v 12), (.v 13), (.v 14), (.v 15), (.v 16), (.v 17), (.v 18)] [(.v 2), (.v 3), (.v 4), (.v 5), (.v 6), (.v 7), (.v 8), (.v 9), (.v 10), (.v 11), (.v 12), (.v 13)] 19 2 15 4), (.ob [((.v 14), true)] (.v 15)), (.db 19 (.cm .geq (.v 5) (.c 2))), (.db 20 (.cm .leq (.v 5) (.c 4))), (.db 21 (.and (.v 19) (.v 20))), (.db 22 (.not (.v 16))), (.di 21 (.ar .sub .i64 (.v 5) (.c 2))), (.db 23 (.cm .geq (.v 21) (.c 0))), (.ob [((.v 14), true), ((.v 21), true), ((.v 22), false)] (.v 23)), (.db 24 (.cm .lss (.v 21) (.c 3))), (.ob [((.v 14), true), ((.v 21), true), ((.v 22), false)] (.v 24)), (.db 25 (.cm .eql (.v 21) (.c 0))), (.db 26 (.cm .eql (.v 21) (.c 1))), (.di 22 (.ite (.v 26) (.v 3) (.v 4))), (.di 23 (.ite (.v 25) (.v 2) (.v 22))), (.db 27 (.cm .eql (.v 20) (.v 23))), (.db 28 (.eqb (.v 17) (.c false))), (.db 29 (.and (.v 27) (.v 28))), (.db 30 (.not (.v 29))), (.db 31 (.or (.v 22) (.v 30))), (.di 24 (.ar .sub .i64 (.v 5) (.c 2))), (.di 25 (.cv .u8 (.v 24))), (.di 26 (.ar .sub .u8 (.v 0) (.v 25))), (.di 27 (.cv .u16 (.v 26))), (.di 28 (.ar .add .u16 (.c 256) (.v 27))), (.db 32 (.cm .neq (.v 19) (.v 28))), (.db 33 (.or (.v 31) (.v 32))), (.db 34 (.and (.v 21) (.v 33))), (.db 35 (.cm .lss (.v 5) (.c 2))), (.db 36 (.cm .gtr (.v 5) (.c 4))), (.db 37 (.or (.v 35) (.v 36))), (.db 38 (.and (.v 37) (.v 16))), (.db 39 (.or (.v 34) (.v 38))), (.db 40 (.cm .eql (.v 5) (.c 5))), (.db 41 (.cm .eql (.v 19) (.c 65530))), (.db 42 (.eqb (.v 41) (.v 0))), (.db 43 (.not (.v 42))), (.db 44 (.and (.v 40) (.v 43))), (.db 45 (.cm .eql (.v 5) (.c 5))), (.db 46 (.not (.v 0))), (.db 47 (.and (.v 45) (.v 46))), (.db 48 (.cm .neq (.v 19) (.c 65534))), (.db 49 (.and (.v 47) (.v 48))), (.db 50 (.or (.v 44) (.v 49))), (.call 13 [(.v 6), (.v 7), (.v 8), (.v 9), (.v 10), (.v 11), (.v 12), (.v 13), (.v 14), (.v 15), (.v 16), (.v 17), (.v 18), (.v 1)] [(.v 2), (.v 3), (.v 4), (.v 5), (.v 6), (.v 7), (.v 8), (.v 9), (.v 10), (.v 11), (.v 12), (.v 13), (.c false), (.v 1), (.v 0), (.c false)] 29 14 51 13), (.ob [((.v 14), true), ((.v 39), false), ((.v 50), false)] (.v 51)), (.db 64 (.cm .neq (.v 42) (.c 0))), (.db 65 (.not (.v 64))), (.db 66 (.not (.v 50))), (.db 67 (.ite (.v 66) (.v 64) (.v 50))), (.db 68 (.not (.v 39))), (.db 69 (.ite (.v 68) (.v 67) (.v 39))), (.di 43 (.ar .add .i64 (.v 5) (.c 1))), (.db 70 (.not (.v 39))), (.db 71 (.not (.v 50))), (.db 72 (.not (.v 64))), (.db 73 (.and (.v 71) (.v 72))), (.db 74 (.and (.v 70) (.v 73))), (.db 75 (.not (.v 39))), (.db 76 (.not (.v 50))), (.db 77 (.not (.v 64))), (.db 78 (.and (.v 76) (.v 77))), (.db 79 (.and (.v 75) (.v 78))), (.db 80 (.and (.v 14) (.v 79))), (.db 81 (.and (.v 14) (.v 69))), (.db 82 (.not (.v 14)))] [(.v 0), (.v 1), (.v 2), (.v 3), (.v 4), (.v 43), (.v 29), (.v 30), (.v 31), (.v 32), (.v 33), (.v 34), (.v 35), (.v 36), (.v 37), (.v 38), (.v 39), (.v 40), (.v 41), (.v 6), (.v 7), (.v 8), (.v 9), (.v 10), (.v 11), (.v 12), (.v 13), (.v 14), (.v 15), (.v 16), (.v 17), (.v 18)] [(.v 80), (.v 0), (.v 1), (.v 52), (.v 53), (.v 54), (.v 55), (.v 56), (.v 57), (.v 58), (.v 59), (.v 60), (.v 61), (.v 62), (.v 63), (.v 81), (.v 82), (.v 2), (.v 3), (.v 4), (.v 5), (.v 6), (.v 7), (.v 8), (.v 9), (.v 10), (.v 11), (.v 12), (.v 13)]) }
def l4 : List (Nat × LAnn) := [(14, L100400)]
theorem k4 : fnX Tryz.prog (hnd Tryz.prog (gl m) inl (tabS TI2)) (gl m) (ctlL Tryz.f4 (gl m) s4 l4) Tryz.f4 s4 = some S4 := fnXb_ok (by kernel_rfl)
noncomputable def F4 : Fun := S4.run (lpF (l4.map (·.2)) (tabF TI2)) true
theorem x4 : AllOk Tryz.prog (lpF (l4.map (·.2)) (tabF TI2)) (gl m) (tabS TI2) := (AllOk.loops (l := l4.map (·.2)) AI2 (by kernel_rfl))
theorem y4 : LoopsOk (lpF (l4.map (·.2)) (tabF TI2)) (ctlL Tryz.f4 (gl m) s4 l4) := (LoopsOk.of (fn := Tryz.f4) (gl := (gl m)) (s := s4) (l := l4) (by kernel_rfl))
theorem z4 : (wsEm S4.em (argI s4.args) (argB s4.args) && shOk s4 && s4.pre) = true := by kernel_rfl
theorem d4 : Contract Tryz.prog (gl m) 4 s4 (S4.run (lpF (l4.map (·.2)) (tabF TI2)) s4.pre) := contract_pre (hnd_ok x4 inl_ok) Tryz.func4 y4 k4 z4
theorem c4 : Contract Tryz.prog (gl m) 4 s4 F4 := d4
theorem call4 : ∀ args w, (callFunc 4 args).run Tryz.prog w = .ok (.enter 4 args) w := callable_of Tryz.func4 (by kernel_rfl) (by kernel_rfl)
noncomputable def e4 : Nat × Sum × Fun := (4, s4, F4)
noncomputable def TI3 : List (Nat × Sum × Fun) := e4 :: TI2
theorem AI3 : AllOk Tryz.prog (tabF TI3) (gl m) (tabS TI3) := AllOk.cons (s := e4.2.1) c4 call4 (fun S h => by cases h) AI2
/-- The chapter's examples. -/
def isTT (ri : List (Option A)) (rb : List (Option B)) (_ : Pc) : Bool := match ri, rb with
  | [], [some (.c true), some (.c true)] => true
  | _, _ => false
theorem aw9e : (peRun E9w [] [] 0 0 [] [] [] [] .leaf).ok isTT = true := by kernel_rfl
theorem tt_of {F : Fun} {is : List Int} {bs : List Bool} {a b : Bool} {ri : List (Option A)} {rb : List (Option B)} {c : Pc} {ρ : Env} (h1 : (F is bs) = ([], [a, b])) (h2 : ∀ j x, rb.getD j none = some x → x.d ρ = (F is bs).2.getD j false) (h3 : isTT ri rb c = true) : F is bs = ([], [true, true]) := by
  unfold isTT at h3
  split at h3
  · have a0 := h2 0 _ rfl; have a1 := h2 1 _ rfl
    rw [h1] at a0 a1 ⊢
    simp only [List.getD_cons_zero, List.getD_cons_succ, B.d] at a0 a1
    rw [← a0, ← a1]
  · cases h3
theorem awake9 : F9 [] [] = ([], [true, true]) := by
  obtain ⟨ρ', ri, rb, c, _, _, _, h1, h2, h3⟩ := peRun_ok ek9w (chk := isTT) aw9e (envOf [] []) [] [] (fun _ _ => rfl) (fun _ _ => rfl) (fun _ _ => ⟨Good.nil, (fun p hp => by cases hp), (fun p hp => by cases hp), fun p hp => by cases hp⟩)
  exact tt_of (F := F9) (a := _) (b := _) rfl h2 h3
noncomputable def E9 : PeF := PeF.cst0 ([], [true, true])
theorem ek9 : EOk F9 E9 := PeF.cst0_ok awake9
noncomputable def TX77 : List (Nat × PeF) := (9, E9) :: TX76
theorem et77 : ∀ f, EOk (tabF T77 f) (tabE TX77 f) := tabE_cons ek9 et76
def g16 : List Gd := [[], [(.v 15, false)]]
noncomputable def E16 : PeF := S16.pe (tabE TX77) g16 false
theorem ek16 : EOk F16 E16 := Smry.pe_ok et77
noncomputable def TX78 : List (Nat × PeF) := (16, E16) :: TX77
theorem et78 : ∀ f, EOk (tabF T78 f) (tabE TX78 f) := tabE_cons ek16 et77
def g24 : List Gd := []
noncomputable def E24 : PeF := S24.pe (tabE TX78) g24 false
theorem ek24 : EOk F24 E24 := Smry.pe_ok et78
noncomputable def TXI1 : List (Nat × PeF) := (24, E24) :: TX78
theorem etI1 : ∀ f, EOk (tabF TI1 f) (tabE TXI1 f) := tabE_cons ek24 et78
def g12 : List Gd := []
noncomputable def E12 : PeF := S12.pe (tabE TXI1) g12 false
theorem ek12 : EOk F12 E12 := Smry.pe_ok etI1
noncomputable def TXI2 : List (Nat × PeF) := (12, E12) :: TXI1
theorem etI2 : ∀ f, EOk (tabF TI2 f) (tabE TXI2 f) := tabE_cons ek12 etI1
def g4 : List Gd := [[], [], [(.v 12, false), (.v 40, false), (.v 41, false), (.v 42, false), (.v 43, false), (.v 44, false), (.v 45, false), (.v 46, false), (.v 48, true), (.v 49, false), (.v 50, false), (.v 51, false), (.v 52, false), (.v 53, true)], [], [], [(.v 41, true), (.v 42, false), (.v 43, false), (.v 44, false), (.v 45, false), (.v 46, false), (.v 48, true), (.v 49, false), (.v 50, false), (.v 51, false), (.v 52, false), (.v 53, false), (.v 58, true), (.v 68, false), (.v 84, true), (.v 85, true), (.v 86, true), (.v 87, true), (.v 88, true), (.v 89, true), (.v 90, true), (.v 91, true), (.v 92, true), (.v 93, true), (.v 94, true), (.v 95, true), (.v 96, true), (.v 97, true), (.v 98, true)]]
def gl4 : List (LAnn × List Gd) := [(L100400, [[], []])]
noncomputable def E4 : PeF := S4.pe (lpE gl4 12 (tabE TXI2)) g4 true
theorem ek4 : EOk F4 E4 := Smry.pe_ok (lpE_ok (l := gl4) etI2)
end Go.Proofs.YtalnndmnnffnmaaGreat.Cr
