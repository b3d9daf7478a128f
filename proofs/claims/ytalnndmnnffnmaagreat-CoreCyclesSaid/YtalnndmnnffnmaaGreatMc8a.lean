/-
  Merged texts (CrCa, CrE, CrCb, CrN, CrCt, CrC1, CrC2, CrC3, CrCz). No condition.
-/
import Derived.Test.YtalnndmnnffnmaaGreatMc4
import Derived.Test.YtalnndmnnffnmaaGreatMc6
import Derived.Test.YtalnndmnnffnmaaGreatMc7z
/-! ## CrCa -/
set_option linter.unusedVariables false
set_option linter.unusedSimpArgs false
namespace Go.Proofs.YtalnndmnnffnmaaGreat.Cr
open Go Go.Proofs Go.Proofs.YtalnndmnnffnmaaGreat.Sx
variable {m : Int}

noncomputable def e7 : Nat × Sum × Fun := (7, s7, F7)
noncomputable def TC1 : List (Nat × Sum × Fun) := e7 :: T78
theorem AC1 : AllOk Tryz.prog (tabF TC1) (gl m) (tabS TC1) := AllOk.cons (s := e7.2.1) c7 call7 (fun S h => by cases h) A78
/-! seepage/seepageref08.clean -/
def s24 : Sum := { args := [(.val false [(.int .u8)])], tup := false, res := [(false, [(.int .u8)])], pre := false }
def S24 : Smry := (.mk [(.di 1 (.ar .rem .u8 (.v 0) (.c 16))), (.di 2 (.ar .quo .u8 (.v 0) (.c 64))), (.di 3 (.ar .mul .u8 (.v 2) (.c 64))), (.di 4 (.ar .add .u8 (.v 1) (.v 3)))] [(.v 4)] [])
theorem k24 : fnX Tryz.prog (hnd Tryz.prog (gl m) inl (tabS TC1)) (gl m) (ctlOf Tryz.f24 (gl m) s24) Tryz.f24 s24 = some S24 := by kernel_rfl
noncomputable def F24 : Fun := S24.run (tabF TC1) false
theorem x24 : AllOk Tryz.prog (tabF TC1) (gl m) (tabS TC1) := AC1
theorem y24 : LoopsOk (tabF TC1) (ctlOf Tryz.f24 (gl m) s24) := (LoopsOk.nil rfl)
theorem z24 : (wsEm S24.em (argI s24.args) (argB s24.args) && shOk s24 && noOb S24.em) = true := by kernel_rfl
theorem d24 : Contract Tryz.prog (gl m) 24 s24 (S24.run (tabF TC1) s24.pre) := contract_of (hnd_ok x24 inl_ok) Tryz.func24 y24 k24 z24
theorem c24 : Contract Tryz.prog (gl m) 24 s24 F24 := d24
theorem call24 : ∀ args w, (callFunc 24 args).run Tryz.prog w = .ok (.enter 24 args) w := callable_of Tryz.func24 (by kernel_rfl) (by kernel_rfl)
noncomputable def e24 : Nat × Sum × Fun := (24, withInl s24 S24, F24)
noncomputable def TC2 : List (Nat × Sum × Fun) := e24 :: TC1
theorem AC2 : AllOk Tryz.prog (tabF TC2) (gl m) (tabS TC2) := AllOk.cons (s := e24.2.1) c24 call24 (fun S h => by cases h; exact ⟨rfl, fun _ _ => rfl⟩) AC1
/-! seepage/seepageref08.Check -/
def s12 : Sum := { args := [(.val true [(.int .u8), (.int .u8)])], tup := false, res := [(true, [(.int .u8), (.int .u8)])], pre := false }
def S12 : Smry := (.mk [(.di 2 (.ar .rem .u8 (.v 0) (.c 16))), (.di 3 (.ar .quo .u8 (.v 0) (.c 64))), (.di 4 (.ar .mul .u8 (.v 3) (.c 64))), (.di 5 (.ar .add .u8 (.v 2) (.v 4))), (.di 6 (.ar .rem .u8 (.v 1) (.c 16))), (.di 7 (.ar .quo .u8 (.v 1) (.c 64))), (.di 8 (.ar .mul .u8 (.v 7) (.c 64))), (.di 9 (.ar .add .u8 (.v 6) (.v 8)))] [(.v 5), (.v 9)] [])
theorem k12 : fnX Tryz.prog (hnd Tryz.prog (gl m) inl (tabS TC2)) (gl m) (ctlOf Tryz.f12 (gl m) s12) Tryz.f12 s12 = some S12 := by kernel_rfl
noncomputable def F12 : Fun := S12.run (tabF TC2) false
theorem x12 : AllOk Tryz.prog (tabF TC2) (gl m) (tabS TC2) := AC2
theorem y12 : LoopsOk (tabF TC2) (ctlOf Tryz.f12 (gl m) s12) := (LoopsOk.nil rfl)
theorem z12 : (wsEm S12.em (argI s12.args) (argB s12.args) && shOk s12 && noOb S12.em) = true := by kernel_rfl
theorem d12 : Contract Tryz.prog (gl m) 12 s12 (S12.run (tabF TC2) s12.pre) := contract_of (hnd_ok x12 inl_ok) Tryz.func12 y12 k12 z12
theorem c12 : Contract Tryz.prog (gl m) 12 s12 F12 := d12
theorem call12 : ∀ args w, (callFunc 12 args).run Tryz.prog w = .ok (.enter 12 args) w := callable_of Tryz.func12 (by kernel_rfl) (by kernel_rfl)
noncomputable def e12 : Nat × Sum × Fun := (12, withInl s12 S12, F12)
noncomputable def TC3 : List (Nat × Sum × Fun) := e12 :: TC2
theorem AC3 : AllOk Tryz.prog (tabF TC3) (gl m) (tabS TC3) := AllOk.cons (s := e12.2.1) c12 call12 (fun S h => by cases h; exact ⟨rfl, fun _ _ => rfl⟩) AC2
/-! seepage/seepagelaw10.cycles -/
def s8 : Sum := { args := [(.val true ckl1), (.val false [(.int .u8)]), (.val false [(.int .u8)])], tup := true, res := [(false, [(.int .i64)]), (true, ckl1), (false, [.bool])], pre := true }
def S8 : Smry := (.mk [(.di 15 (.ar .rem .u8 (.v 4) (.c 16))), (.di 16 (.ar .quo .u8 (.v 4) (.c 64))), (.di 17 (.ar .mul .u8 (.v 16) (.c 64))), (.di 18 (.ar .add .u8 (.v 15) (.v 17))), (.di 19 (.ar .rem .u8 (.v 5) (.c 16))), (.di 20 (.ar .quo .u8 (.v 5) (.c 64))), (.di 21 (.ar .mul .u8 (.v 20) (.c 64))), (.di 22 (.ar .add .u8 (.v 19) (.v 21))), (.call 100800 [(.v 14), (.v 13), (.c 1), (.v 0), (.v 1), (.v 2), (.v 3), (.v 18), (.v 22), (.v 6), (.v 7), (.c 0), (.v 9), (.v 10), (.c 0), (.c 0)] [(.v 0), (.v 1), (.v 2), (.v 3), (.v 4), (.v 5), (.v 6), (.v 7), (.c false), (.c false), (.v 10), (.c false)] 23 29 12 29), (.ob [] (.v 12)), (.di 52 (.ite (.v 14) (.c 0) (.v 23))), (.db 41 (.ite (.v 14) (.c false) (.v 15))), (.di 53 (.ite (.v 14) (.v 39) (.v 24))), (.db 42 (.ite (.v 14) (.v 29) (.v 16))), (.di 54 (.ite (.v 14) (.v 40) (.v 25))), (.db 43 (.ite (.v 14) (.v 30) (.v 17))), (.di 55 (.ite (.v 14) (.v 41) (.v 26))), (.db 44 (.ite (.v 14) (.v 31) (.v 18))), (.di 56 (.ite (.v 14) (.v 42) (.v 27))), (.db 45 (.ite (.v 14) (.v 32) (.v 19))), (.di 57 (.ite (.v 14) (.v 43) (.v 28))), (.di 58 (.ite (.v 14) (.v 44) (.v 29))), (.di 59 (.ite (.v 14) (.v 45) (.v 30))), (.db 46 (.ite (.v 14) (.v 33) (.v 20))), (.di 60 (.ite (.v 14) (.v 46) (.v 31))), (.di 61 (.ite (.v 14) (.v 47) (.v 32))), (.di 62 (.ite (.v 14) (.v 48) (.v 33))), (.db 47 (.ite (.v 14) (.v 34) (.v 21))), (.di 63 (.ite (.v 14) (.v 49) (.v 34))), (.db 48 (.ite (.v 14) (.v 35) (.v 22))), (.db 49 (.ite (.v 14) (.v 36) (.v 23))), (.di 64 (.ite (.v 14) (.v 50) (.v 35))), (.db 50 (.ite (.v 14) (.v 37) (.v 24))), (.db 51 (.ite (.v 14) (.v 38) (.v 25))), (.di 65 (.ite (.v 14) (.v 51) (.v 36))), (.db 52 (.ite (.v 14) (.v 39) (.v 26))), (.db 53 (.ite (.v 14) (.v 40) (.v 27)))] [(.v 52), (.v 53), (.v 54), (.v 55), (.v 56), (.v 57), (.v 58), (.v 59), (.v 60), (.v 61), (.v 62), (.v 63), (.v 64), (.v 65)] [(.v 42), (.v 43), (.v 44), (.v 45), (.v 46), (.v 47), (.v 48), (.v 49), (.v 50), (.v 51), (.v 52), (.v 53), (.v 41)])
def L100800 : LAnn := { id := 100800, ga := [14], gb := [], hv := [9, 10], dr := [4, 5, 13, 14, 15, 16, 17, 18, 19, 20, 21, 22, 23, 24, 26, 27, 28, 29, 30, 31, 32, 33, 34, 35, 36, 38, 39, 40, 41, 42, 44, 45, 46], hb := [1], db := [], xs := [0, 1, 2, 3, 4, 5, 6, 7, 8, 9, 10, 11, 12, 13, 14, 15, 16, 17, 18, 19, 20, 21, 22, 23, 24, 25, 26, 27, 28, 29, 30, 31, 32, 33, 34, 35, 36, 37, 38, 39, 40, 41, 42, 43, 44, 45, 46], xb := (List.range 300), nI := 16, nB := 12, S := (.mk [(.db 12 (.cm .leq (.v 2) (.c 10))), (.call 13 [(.v 3), (.v 4), (.v 5), (.v 6), (.v 7), (.v 8), (.v 9), (.v 10), (.v 11), (.v 12), (.v 13), (.v 14), (.v 15), (.v 1)] [(.v 0), (.v 1), (.v 2), (.v 3), (.v 4), (.v 5), (.v 6), (.v 7), (.v 8), (.v 9), (.v 10), (.v 11), (.c false), (.c false), (.c false), (.c false)] 16 14 13 13), (.ob [((.v 12), true)] (.v 13)), (.db 26 (.cm .neq (.v 29) (.c 0))), (.db 27 (.cm .eql (.v 24) (.c 0))), (.db 28 (.not (.v 26))), (.db 29 (.ite (.v 28) (.v 27) (.v 26))), (.di 30 (.ite (.v 28) (.v 2) (.c 0))), (.di 31 (.ite (.v 28) (.v 16) (.v 3))), (.db 30 (.ite (.v 28) (.v 14) (.v 0))), (.di 32 (.ite (.v 28) (.v 17) (.v 4))), (.db 31 (.ite (.v 28) (.v 15) (.v 1))), (.di 33 (.ite (.v 28) (.v 18) (.v 5))), (.db 32 (.ite (.v 28) (.v 16) (.v 2))), (.di 34 (.ite (.v 28) (.v 19) (.v 6))), (.db 33 (.ite (.v 28) (.v 17) (.v 3))), (.di 35 (.ite (.v 28) (.v 20) (.v 7))), (.di 36 (.ite (.v 28) (.v 21) (.v 8))), (.di 37 (.ite (.v 28) (.v 22) (.v 9))), (.db 34 (.ite (.v 28) (.v 18) (.v 4))), (.di 38 (.ite (.v 28) (.v 23) (.v 10))), (.di 39 (.ite (.v 28) (.v 24) (.v 11))), (.di 40 (.ite (.v 28) (.v 25) (.v 12))), (.db 35 (.ite (.v 28) (.v 19) (.v 5))), (.di 41 (.ite (.v 28) (.v 26) (.v 13))), (.db 36 (.ite (.v 28) (.v 20) (.v 6))), (.db 37 (.ite (.v 28) (.v 21) (.v 7))), (.di 42 (.ite (.v 28) (.v 27) (.v 14))), (.db 38 (.ite (.v 28) (.v 22) (.v 8))), (.db 39 (.ite (.v 28) (.v 23) (.v 9))), (.di 43 (.ite (.v 28) (.v 28) (.v 15))), (.db 40 (.ite (.v 28) (.v 24) (.v 10))), (.db 41 (.ite (.v 28) (.v 25) (.v 11))), (.di 44 (.ar .add .i64 (.v 2) (.c 1))), (.db 42 (.not (.v 26))), (.db 43 (.not (.v 27))), (.db 44 (.and (.v 42) (.v 43))), (.db 45 (.not (.v 26))), (.db 46 (.not (.v 27))), (.db 47 (.and (.v 45) (.v 46))), (.db 48 (.and (.v 12) (.v 47))), (.db 49 (.and (.v 12) (.v 29))), (.db 50 (.not (.v 12)))] [(.v 0), (.v 0), (.v 44), (.v 16), (.v 17), (.v 18), (.v 19), (.v 20), (.v 21), (.v 22), (.v 23), (.v 24), (.v 25), (.v 26), (.v 27), (.v 28), (.v 30), (.v 31), (.v 32), (.v 33), (.v 34), (.v 35), (.v 36), (.v 37), (.v 38), (.v 39), (.v 40), (.v 41), (.v 42), (.v 43), (.v 1), (.v 2), (.v 3), (.v 4), (.v 5), (.v 6), (.v 7), (.v 8), (.v 9), (.v 10), (.v 11), (.v 12), (.v 13), (.v 14), (.v 15)] [(.v 48), (.v 14), (.v 15), (.v 16), (.v 17), (.v 18), (.v 19), (.v 20), (.v 21), (.v 22), (.v 23), (.v 24), (.v 25), (.v 49), (.v 50), (.v 28), (.v 30), (.v 31), (.v 32), (.v 33), (.v 34), (.v 35), (.v 36), (.v 37), (.v 38), (.v 39), (.v 40), (.v 41), (.v 12), (.v 0), (.v 1), (.v 2), (.v 3), (.v 4), (.v 5), (.v 6), (.v 7), (.v 8), (.v 9), (.v 10), (.v 11)]) }
def l8 : List (Nat × LAnn) := [(6, L100800)]
theorem k8 : fnX Tryz.prog (hnd Tryz.prog (gl m) inl (tabS TC3)) (gl m) (ctlL Tryz.f8 (gl m) s8 l8) Tryz.f8 s8 = some S8 := by kernel_rfl
noncomputable def F8 : Fun := S8.run (lpF (l8.map (·.2)) (tabF TC3)) true
theorem x8 : AllOk Tryz.prog (lpF (l8.map (·.2)) (tabF TC3)) (gl m) (tabS TC3) := (AllOk.loops (l := l8.map (·.2)) AC3 (by kernel_rfl))
theorem y8 : LoopsOk (lpF (l8.map (·.2)) (tabF TC3)) (ctlL Tryz.f8 (gl m) s8 l8) := (LoopsOk.of (fn := Tryz.f8) (gl := (gl m)) (s := s8) (l := l8) (by kernel_rfl))
theorem z8 : (wsEm S8.em (argI s8.args) (argB s8.args) && shOk s8 && s8.pre) = true := by kernel_rfl
theorem d8 : Contract Tryz.prog (gl m) 8 s8 (S8.run (lpF (l8.map (·.2)) (tabF TC3)) s8.pre) := contract_pre (hnd_ok x8 inl_ok) Tryz.func8 y8 k8 z8
theorem c8 : Contract Tryz.prog (gl m) 8 s8 F8 := d8
theorem call8 : ∀ args w, (callFunc 8 args).run Tryz.prog w = .ok (.enter 8 args) w := callable_of Tryz.func8 (by kernel_rfl) (by kernel_rfl)
noncomputable def e8 : Nat × Sum × Fun := (8, s8, F8)
noncomputable def TC5 : List (Nat × Sum × Fun) := e8 :: TC3
theorem AC5 : AllOk Tryz.prog (tabF TC5) (gl m) (tabS TC5) := AllOk.cons (s := e8.2.1) c8 call8 (fun S h => by cases h) AC3
/-! seepage/seepagelaw10.flag -/
def s10 : Sum := { args := [(.val true ckl1), (.val false [(.int .u8)])], tup := true, res := [(false, [.bool]), (false, [.bool])], pre := true }
def S10 : Smry := (.mk [(.di 14 (.ar .quo .u8 (.v 13) (.c 64))), (.db 12 (.cm .geq (.v 14) (.c 0))), (.ob [] (.v 12)), (.db 13 (.cm .lss (.v 14) (.c 4))), (.ob [] (.v 13)), (.di 15 (.tab [128, 64, 1, 2] (.v 14))), (.di 16 (.ar .and .u8 (.v 4) (.v 15))), (.db 14 (.cm .gtr (.v 16) (.c 0))), (.di 17 (.ar .quo .u8 (.v 13) (.c 32))), (.di 18 (.ar .rem .u8 (.v 17) (.c 2))), (.db 15 (.cm .eql (.v 18) (.c 1)))] [] [(.v 14), (.v 15)])
theorem k10 : fnX Tryz.prog (hnd Tryz.prog (gl m) inl (tabS TC5)) (gl m) (ctlOf Tryz.f10 (gl m) s10) Tryz.f10 s10 = some S10 := by kernel_rfl
noncomputable def F10 : Fun := S10.run (tabF TC5) true
theorem x10 : AllOk Tryz.prog (tabF TC5) (gl m) (tabS TC5) := AC5
theorem y10 : LoopsOk (tabF TC5) (ctlOf Tryz.f10 (gl m) s10) := (LoopsOk.nil rfl)
theorem z10 : (wsEm S10.em (argI s10.args) (argB s10.args) && shOk s10 && s10.pre) = true := by kernel_rfl
theorem d10 : Contract Tryz.prog (gl m) 10 s10 (S10.run (tabF TC5) s10.pre) := contract_pre (hnd_ok x10 inl_ok) Tryz.func10 y10 k10 z10
theorem c10 : Contract Tryz.prog (gl m) 10 s10 F10 := d10
theorem call10 : ∀ args w, (callFunc 10 args).run Tryz.prog w = .ok (.enter 10 args) w := callable_of Tryz.func10 (by kernel_rfl) (by kernel_rfl)
noncomputable def e10 : Nat × Sum × Fun := (10, s10, F10)
noncomputable def TC7 : List (Nat × Sum × Fun) := e10 :: TC5
theorem AC7 : AllOk Tryz.prog (tabF TC7) (gl m) (tabS TC7) := AllOk.cons (s := e10.2.1) c10 call10 (fun S h => by cases h) AC5
/-! seepage/seepagelaw10.carry -/
def s11 : Sum := { args := [(.val false [(.int .u8)]), (.val false [(.int .u8)])], tup := false, res := [(false, [(.int .i64)])], pre := false }
def S11 : Smry := (.mk [(.di 2 (.cv .i64 (.v 0))), (.di 3 (.cv .i64 (.v 1))), (.di 4 (.ar .add .i64 (.v 2) (.v 3))), (.di 5 (.ar .quo .i64 (.v 4) (.c 256)))] [(.v 5)] [])
theorem k11 : fnX Tryz.prog (hnd Tryz.prog (gl m) inl (tabS TC7)) (gl m) (ctlOf Tryz.f11 (gl m) s11) Tryz.f11 s11 = some S11 := by kernel_rfl
noncomputable def F11 : Fun := S11.run (tabF TC7) false
theorem x11 : AllOk Tryz.prog (tabF TC7) (gl m) (tabS TC7) := AC7
theorem y11 : LoopsOk (tabF TC7) (ctlOf Tryz.f11 (gl m) s11) := (LoopsOk.nil rfl)
theorem z11 : (wsEm S11.em (argI s11.args) (argB s11.args) && shOk s11 && noOb S11.em) = true := by kernel_rfl
theorem d11 : Contract Tryz.prog (gl m) 11 s11 (S11.run (tabF TC7) s11.pre) := contract_of (hnd_ok x11 inl_ok) Tryz.func11 y11 k11 z11
theorem c11 : Contract Tryz.prog (gl m) 11 s11 F11 := d11
theorem call11 : ∀ args w, (callFunc 11 args).run Tryz.prog w = .ok (.enter 11 args) w := callable_of Tryz.func11 (by kernel_rfl) (by kernel_rfl)
noncomputable def e11 : Nat × Sum × Fun := (11, s11, F11)
noncomputable def TC8 : List (Nat × Sum × Fun) := e11 :: TC7
theorem AC8 : AllOk Tryz.prog (tabF TC8) (gl m) (tabS TC8) := AllOk.cons (s := e11.2.1) c11 call11 (fun S h => by cases h) AC7
/-! seepage/seepagelaw10.CoreCycles -/
def s3 : Sum := { args := [(.val true ckl1), (.val false [(.int .u8)]), (.val false [(.int .u8)])], tup := false, res := [(false, [.bool])], pre := true }
def S3 : Smry := (.mk [(.call 7 [(.v 13)] [] 15 4 12 2), (.call 8 [(.v 0), (.v 1), (.v 2), (.v 3), (.v 4), (.v 5), (.v 6), (.v 7), (.v 8), (.v 9), (.v 10), (.v 11), (.v 12), (.v 13), (.v 14)] [(.v 0), (.v 1), (.v 2), (.v 3), (.v 4), (.v 5), (.v 6), (.v 7), (.v 8), (.v 9), (.v 10), (.v 11)] 19 14 14 14), (.ob [] (.v 14)), (.db 28 (.cm .eql (.v 16) (.c 20))), (.db 29 (.not (.v 27))), (.db 30 (.and (.v 29) (.v 26))), (.call 9 [] [] 33 0 31 2), (.ob [((.v 28), true), ((.v 30), true)] (.v 31)), (.db 33 (.and (.v 30) (.v 32))), (.db 34 (.not (.v 27))), (.db 35 (.or (.v 34) (.v 26))), (.db 36 (.cm .eql (.v 16) (.c 11))), (.di 33 (.ar .add .u16 (.v 6) (.c 2))), (.di 34 (.cv .u16 (.v 14))), (.di 35 (.ar .add .u16 (.v 33) (.v 34))), (.db 37 (.cm .gtr (.v 14) (.c 127))), (.di 36 (.ar .sub .u16 (.v 35) (.c 256))), (.di 37 (.ite (.v 37) (.v 36) (.v 35))), (.call 10 [(.v 0), (.v 1), (.v 2), (.v 3), (.v 4), (.v 5), (.v 6), (.v 7), (.v 8), (.v 9), (.v 10), (.v 11), (.v 12), (.v 13)] [(.v 0), (.v 1), (.v 2), (.v 3), (.v 4), (.v 5), (.v 6), (.v 7), (.v 8), (.v 9), (.v 10), (.v 11)] 38 0 38 3), (.ob [((.v 28), false), ((.v 35), false), ((.v 36), true)] (.v 38)), (.db 41 (.eqb (.v 39) (.v 40))), (.di 38 (.ite (.v 41) (.c 1) (.c 0))), (.db 42 (.eqb (.v 39) (.v 40))), (.di 39 (.ar .quo .u16 (.v 37) (.c 256))), (.di 40 (.ar .quo .u16 (.v 33) (.c 256))), (.db 43 (.cm .neq (.v 39) (.v 40))), (.db 44 (.and (.v 42) (.v 43))), (.di 41 (.ite (.v 44) (.c 2) (.v 38))), (.db 45 (.cm .eql (.v 16) (.c 7))), (.db 46 (.and (.v 12) (.v 45))), (.call 11 [(.v 14), (.v 1)] [] 42 1 47 0), (.call 11 [(.v 14), (.v 2)] [] 43 1 47 0), (.di 44 (.ite (.v 12) (.v 43) (.c 0))), (.di 45 (.ite (.v 46) (.v 42) (.v 44))), (.di 46 (.ite (.v 36) (.v 41) (.v 45))), (.di 47 (.ar .add .i64 (.v 18) (.v 46))), (.db 47 (.cm .eql (.v 19) (.v 47))), (.call 9 [] [] 48 0 48 2), (.ob [((.v 28), false), ((.v 35), false), ((.v 47), true)] (.v 48)), (.db 50 (.and (.v 47) (.v 49))), (.db 51 (.not (.v 35))), (.db 52 (.and (.v 51) (.v 50))), (.db 53 (.not (.v 28))), (.db 54 (.ite (.v 53) (.v 52) (.v 33)))] [] [(.v 54)])
theorem k3 : fnX Tryz.prog (hnd Tryz.prog (gl m) inl (tabS TC8)) (gl m) (ctlOf Tryz.f3 (gl m) s3) Tryz.f3 s3 = some S3 := by kernel_rfl
noncomputable def F3 : Fun := S3.run (tabF TC8) true
theorem x3 : AllOk Tryz.prog (tabF TC8) (gl m) (tabS TC8) := AC8
theorem y3 : LoopsOk (tabF TC8) (ctlOf Tryz.f3 (gl m) s3) := (LoopsOk.nil rfl)
theorem z3 : (wsEm S3.em (argI s3.args) (argB s3.args) && shOk s3 && s3.pre) = true := by kernel_rfl
theorem d3 : Contract Tryz.prog (gl m) 3 s3 (S3.run (tabF TC8) s3.pre) := contract_pre (hnd_ok x3 inl_ok) Tryz.func3 y3 k3 z3
theorem c3 : Contract Tryz.prog (gl m) 3 s3 F3 := d3
theorem call3 : ∀ args w, (callFunc 3 args).run Tryz.prog w = .ok (.enter 3 args) w := callable_of Tryz.func3 (by kernel_rfl) (by kernel_rfl)
noncomputable def e3 : Nat × Sum × Fun := (3, s3, F3)
noncomputable def TC9 : List (Nat × Sum × Fun) := e3 :: TC8
theorem AC9 : AllOk Tryz.prog (tabF TC9) (gl m) (tabS TC9) := AllOk.cons (s := e3.2.1) c3 call3 (fun S h => by cases h) AC8
/-! seepage/seepagelaw10.CoreInterrupts -/
def s4 : Sum := { args := [(.val true ckl1), (.val false [.bool]), (.val false [(.int .u8)])], tup := false, res := [(false, [.bool])], pre := true }
def S4 : Smry := (.mk [(.di 14 (.ar .rem .u8 (.v 4) (.c 16))), (.di 15 (.ar .quo .u8 (.v 4) (.c 64))), (.di 16 (.ar .mul .u8 (.v 15) (.c 64))), (.di 17 (.ar .add .u8 (.v 14) (.v 16))), (.di 18 (.ar .rem .u8 (.v 5) (.c 16))), (.di 19 (.ar .quo .u8 (.v 5) (.c 64))), (.di 20 (.ar .mul .u8 (.v 19) (.c 64))), (.di 21 (.ar .add .u8 (.v 18) (.v 20))), (.db 13 (.not (.v 12))), (.call 13 [(.v 0), (.v 1), (.v 2), (.v 3), (.v 17), (.c 0), (.v 6), (.c 0), (.c 0), (.c 0), (.c 0), (.c 0), (.c 0), (.c 234)] [(.v 0), (.v 1), (.v 2), (.c false), (.c false), (.c false), (.c false), (.c false), (.c false), (.c false), (.c false), (.c false), (.c false), (.v 13), (.v 12), (.c false)] 22 14 14 13), (.ob [] (.v 14)), (.call 13 [(.v 22), (.v 23), (.v 24), (.v 25), (.v 26), (.v 27), (.v 28), (.v 29), (.v 30), (.v 31), (.v 32), (.v 33), (.v 34), (.v 13)] [(.v 15), (.v 16), (.v 17), (.v 18), (.v 19), (.v 20), (.v 21), (.v 22), (.v 23), (.v 24), (.v 25), (.v 26), (.c false), (.v 13), (.v 12), (.c false)] 36 14 27 13), (.ob [] (.v 27)), (.di 50 (.ar .and .u8 (.v 17) (.c 4))), (.db 40 (.cm .eql (.v 50) (.c 0))), (.db 41 (.or (.v 12) (.v 40))), (.db 42 (.cm .neq (.v 35) (.c 0))), (.db 43 (.cm .neq (.v 49) (.c 0))), (.db 44 (.or (.v 42) (.v 43))), (.db 45 (.cm .neq (.v 44) (.c 0))), (.db 46 (.or (.v 44) (.v 45))), (.db 47 (.cm .neq (.v 47) (.c 0))), (.db 48 (.eqb (.v 47) (.v 41))), (.db 49 (.not (.v 48))), (.db 50 (.or (.v 46) (.v 49))), (.di 51 (.ar .add .u16 (.v 6) (.c 1))), (.db 51 (.cm .neq (.v 42) (.v 51))), (.db 52 (.or (.v 50) (.v 51))), (.db 53 (.not (.v 41))), (.call 9 [] [] 52 0 54 2), (.ob [((.v 52), false), ((.v 53), true)] (.v 54)), (.di 52 (.ar .quo .u16 (.v 42) (.c 256))), (.di 53 (.cv .u8 (.v 52))), (.di 54 (.ar .rem .u16 (.v 42) (.c 256))), (.di 55 (.cv .u8 (.v 54))), (.di 56 (.ar .or .u8 (.v 40) (.c 32))), (.call 100400 [(.v 3), (.v 13), (.v 53), (.v 55), (.v 56), (.c 0), (.v 36), (.v 37), (.v 38), (.v 39), (.v 40), (.v 41), (.v 42), (.v 43), (.v 44), (.v 45), (.v 46), (.v 47), (.v 48)] [(.v 12), (.v 13), (.v 28), (.v 29), (.v 30), (.v 31), (.v 32), (.v 33), (.v 34), (.v 35), (.v 36), (.v 37), (.v 38), (.v 39)] 57 13 56 15), (.ob [((.v 52), false), ((.v 53), false)] (.v 56)), (.call 13 [(.v 22), (.v 23), (.v 24), (.v 25), (.v 26), (.v 27), (.v 28), (.v 29), (.v 30), (.v 31), (.v 32), (.v 33), (.v 34), (.v 13)] [(.v 15), (.v 16), (.v 17), (.v 18), (.v 19), (.v 20), (.v 21), (.v 22), (.v 23), (.v 24), (.v 25), (.v 26), (.c false), (.c false), (.c false), (.c true)] 70 14 71 13), (.ob [((.v 52), false), ((.v 53), false), ((.v 58), true)] (.v 71)), (.db 84 (.cm .eql (.v 65) (.c 0))), (.db 85 (.cm .eql (.v 68) (.c 0))), (.db 86 (.and (.v 84) (.v 85))), (.di 84 (.cv .u16 (.v 13))), (.di 85 (.ar .mul .u16 (.v 84) (.c 257))), (.db 87 (.cm .eql (.v 63) (.v 85))), (.db 88 (.and (.v 86) (.v 87))), (.di 86 (.ar .and .u8 (.v 61) (.c 4))), (.db 89 (.cm .gtr (.v 86) (.c 0))), (.db 90 (.and (.v 88) (.v 89))), (.db 91 (.not (.v 68))), (.db 92 (.and (.v 90) (.v 91))), (.db 93 (.cm .eql (.v 83) (.c 0))), (.db 94 (.and (.v 92) (.v 93))), (.db 95 (.cm .eql (.v 78) (.c 0))), (.db 96 (.and (.v 94) (.v 95))), (.db 97 (.cm .eql (.v 81) (.c 3))), (.db 98 (.and (.v 96) (.v 97))), (.call 9 [] [] 87 0 99 2), (.ob [((.v 52), false), ((.v 53), false), ((.v 58), true), ((.v 98), true)] (.v 99)), (.db 101 (.and (.v 98) (.v 100))), (.db 102 (.and (.v 58) (.v 101))), (.db 103 (.not (.v 53))), (.db 104 (.ite (.v 103) (.v 102) (.v 55))), (.db 105 (.not (.v 52))), (.db 106 (.and (.v 105) (.v 104)))] [] [(.v 106)])
def L100400 : LAnn := { id := 100400, ga := [3, 13, 53, 55, 56], gb := [12, 13], hv := [15], dr := [4, 5, 21, 22, 23, 24, 25, 26, 27, 28, 29, 30, 31, 32, 33, 34, 35, 36, 37, 38, 39, 40, 41, 42, 43, 44, 45, 46, 47, 48, 49, 50, 51, 52, 53, 54, 55, 56, 57, 58, 59, 60, 61, 62, 63, 64, 65, 66, 67, 68, 69, 70, 71, 72, 73, 74, 75, 76, 77, 78, 79, 80, 81, 82, 83, 84, 85, 86, 87, 88, 89, 90, 92, 94, 95, 96, 97, 98, 99, 100, 101, 102, 103, 104, 105, 106, 107, 108, 109, 111, 112, 113, 114, 115, 116, 117, 118, 119, 120, 121, 122, 123, 124, 125, 126, 127, 128, 129, 130, 131, 132, 133, 134, 135, 136, 137, 138, 139, 140, 141, 142, 143, 144, 145, 146, 147, 148, 149, 150, 151, 152, 153, 154, 155, 156, 157, 158, 159, 160, 161, 163, 164, 165, 166, 167, 168, 169, 170, 171, 172, 173, 174, 175, 176, 177, 178, 179, 180, 181, 182, 183, 185, 186, 187, 188, 189, 190, 191, 192, 193, 195, 196, 197, 198, 199, 200, 201, 202, 203, 204, 205, 206, 207, 208, 209, 210, 211, 212, 213, 214, 215, 216, 217, 218, 219, 220, 221, 222, 223, 224, 225, 226, 227, 228, 229, 230, 231, 232, 233, 234, 235, 236, 237, 238, 239, 240, 241, 242, 243, 244, 245, 246, 247, 248], hb := [6], db := [], xs := [6], xb := [6], nI := 19, nB := 14, S := (.mk [(.db 14 (.cm .lss (.v 5) (.c 7))), (.call 14 [(.v 6), (.v 7), (.v 8), (.v 9), (.v 10), (.v 11), (.v 12), (.v 13), (.v 14), (.v 15), (.v 16), (.v 17), (.v 18)] [(.v 2), (.v 3), (.v 4), (.v 5), (.v 6), (.v 7), (.v 8), (.v 9), (.v 10), (.v 11), (.v 12), (.v 13)] 19 2 15 4), (.ob [((.v 14), true)] (.v 15)), (.db 19 (.cm .geq (.v 5) (.c 2))), (.db 20 (.cm .leq (.v 5) (.c 4))), (.db 21 (.and (.v 19) (.v 20))), (.db 22 (.not (.v 16))), (.di 21 (.ar .sub .i64 (.v 5) (.c 2))), (.db 23 (.cm .geq (.v 21) (.c 0))), (.ob [((.v 14), true), ((.v 21), true), ((.v 22), false)] (.v 23)), (.db 24 (.cm .lss (.v 21) (.c 3))), (.ob [((.v 14), true), ((.v 21), true), ((.v 22), false)] (.v 24)), (.db 25 (.cm .eql (.v 21) (.c 0))), (.db 26 (.cm .eql (.v 21) (.c 1))), (.di 22 (.ite (.v 26) (.v 3) (.v 4))), (.di 23 (.ite (.v 25) (.v 2) (.v 22))), (.db 27 (.cm .eql (.v 20) (.v 23))), (.db 28 (.eqb (.v 17) (.c false))), (.db 29 (.and (.v 27) (.v 28))), (.db 30 (.not (.v 29))), (.db 31 (.or (.v 22) (.v 30))), (.di 24 (.ar .sub .i64 (.v 5) (.c 2))), (.di 25 (.cv .u8 (.v 24))), (.di 26 (.ar .sub .u8 (.v 0) (.v 25))), (.di 27 (.cv .u16 (.v 26))), (.di 28 (.ar .add .u16 (.c 256) (.v 27))), (.db 32 (.cm .neq (.v 19) (.v 28))), (.db 33 (.or (.v 31) (.v 32))), (.db 34 (.and (.v 21) (.v 33))), (.db 35 (.cm .lss (.v 5) (.c 2))), (.db 36 (.cm .gtr (.v 5) (.c 4))), (.db 37 (.or (.v 35) (.v 36))), (.db 38 (.and (.v 37) (.v 16))), (.db 39 (.or (.v 34) (.v 38))), (.db 40 (.cm .eql (.v 5) (.c 5))), (.db 41 (.cm .eql (.v 19) (.c 65530))), (.db 42 (.eqb (.v 41) (.v 0))), (.db 43 (.not (.v 42))), (.db 44 (.and (.v 40) (.v 43))), (.db 45 (.cm .eql (.v 5) (.c 5))), (.db 46 (.not (.v 0))), (.db 47 (.and (.v 45) (.v 46))), (.db 48 (.cm .neq (.v 19) (.c 65534))), (.db 49 (.and (.v 47) (.v 48))), (.db 50 (.or (.v 44) (.v 49))), (.call 13 [(.v 6), (.v 7), (.v 8), (.v 9), (.v 10), (.v 11), (.v 12), (.v 13), (.v 14), (.v 15), (.v 16), (.v 17), (.v 18), (.v 1)] [(.v 2), (.v 3), (.v 4), (.v 5), (.v 6), (.v 7), (.v 8), (.v 9), (.v 10), (.v 11), (.v 12), (.v 13), (.c false), (.v 1), (.v 0), (.c false)] 29 14 51 13), (.ob [((.v 14), true), ((.v 39), false), ((.v 50), false)] (.v 51)), (.db 64 (.cm .neq (.v 42) (.c 0))), (.db 65 (.not (.v 64))), (.db 66 (.not (.v 50))), (.db 67 (.ite (.v 66) (.v 64) (.v 50))), (.db 68 (.not (.v 39))), (.db 69 (.ite (.v 68) (.v 67) (.v 39))), (.di 43 (.ar .add .i64 (.v 5) (.c 1))), (.db 70 (.not (.v 39))), (.db 71 (.not (.v 50))), (.db 72 (.not (.v 64))), (.db 73 (.and (.v 71) (.v 72))), (.db 74 (.and (.v 70) (.v 73))), (.db 75 (.not (.v 39))), (.db 76 (.not (.v 50))), (.db 77 (.not (.v 64))), (.db 78 (.and (.v 76) (.v 77))), (.db 79 (.and (.v 75) (.v 78))), (.db 80 (.and (.v 14) (.v 79))), (.db 81 (.and (.v 14) (.v 69))), (.db 82 (.not (.v 14)))] [(.v 0), (.v 1), (.v 2), (.v 3), (.v 4), (.v 43), (.v 29), (.v 30), (.v 31), (.v 32), (.v 33), (.v 34), (.v 35), (.v 36), (.v 37), (.v 38), (.v 39), (.v 40), (.v 41), (.v 6), (.v 7), (.v 8), (.v 9), (.v 10), (.v 11), (.v 12), (.v 13), (.v 14), (.v 15), (.v 16), (.v 17), (.v 18)] [(.v 80), (.v 0), (.v 1), (.v 52), (.v 53), (.v 54), (.v 55), (.v 56), (.v 57), (.v 58), (.v 59), (.v 60), (.v 61), (.v 62), (.v 63), (.v 81), (.v 82), (.v 2), (.v 3), (.v 4), (.v 5), (.v 6), (.v 7), (.v 8), (.v 9), (.v 10), (.v 11), (.v 12), (.v 13)]) }
def l4 : List (Nat × LAnn) := [(14, L100400)]
theorem k4 : fnX Tryz.prog (hnd Tryz.prog (gl m) inl (tabS TC3)) (gl m) (ctlL Tryz.f4 (gl m) s4 l4) Tryz.f4 s4 = some S4 := fnXb_ok (by kernel_rfl)
noncomputable def F4 : Fun := S4.run (lpF (l4.map (·.2)) (tabF TC3)) true
theorem x4 : AllOk Tryz.prog (lpF (l4.map (·.2)) (tabF TC3)) (gl m) (tabS TC3) := (AllOk.loops (l := l4.map (·.2)) AC3 (by kernel_rfl))
theorem y4 : LoopsOk (lpF (l4.map (·.2)) (tabF TC3)) (ctlL Tryz.f4 (gl m) s4 l4) := (LoopsOk.of (fn := Tryz.f4) (gl := (gl m)) (s := s4) (l := l4) (by kernel_rfl))
theorem z4 : (wsEm S4.em (argI s4.args) (argB s4.args) && shOk s4 && s4.pre) = true := by kernel_rfl
theorem d4 : Contract Tryz.prog (gl m) 4 s4 (S4.run (lpF (l4.map (·.2)) (tabF TC3)) s4.pre) := contract_pre (hnd_ok x4 inl_ok) Tryz.func4 y4 k4 z4
theorem c4 : Contract Tryz.prog (gl m) 4 s4 F4 := d4
theorem call4 : ∀ args w, (callFunc 4 args).run Tryz.prog w = .ok (.enter 4 args) w := callable_of Tryz.func4 (by kernel_rfl) (by kernel_rfl)
noncomputable def e4 : Nat × Sum × Fun := (4, s4, F4)
noncomputable def TCI : List (Nat × Sum × Fun) := e4 :: TC3
theorem ACI : AllOk Tryz.prog (tabF TCI) (gl m) (tabS TCI) := AllOk.cons (s := e4.2.1) c4 call4 (fun S h => by cases h) AC3
end Go.Proofs.YtalnndmnnffnmaaGreat.Cr
/-! ## CrE -/
set_option linter.unusedVariables false
set_option linter.unusedSimpArgs false
namespace Go.Proofs.YtalnndmnnffnmaaGreat.Cr
open Go Go.Proofs Go.Proofs.YtalnndmnnffnmaaGreat.Sx

noncomputable def E25 : PeF := PeF.atO dec 4 2
theorem ek25 : EOk F25 E25 := PeF.atO_ok
noncomputable def TX0 : List (Nat × PeF) := []
theorem et0 : ∀ f, EOk (tabF T0 f) (tabE TX0 f) := tabE_nil
noncomputable def TX1 : List (Nat × PeF) := (25, E25) :: TX0
theorem et1 : ∀ f, EOk (tabF T1 f) (tabE TX1 f) := tabE_cons ek25 et0
/-! seepage/alu.Check -/
def g37 : List Gd := []
noncomputable def E37 : PeF := S37.pe (tabE TX1) g37 false
theorem ek37 : EOk F37 E37 := Smry.pe_ok et1
noncomputable def TX2 : List (Nat × PeF) := (37, E37) :: TX1
theorem et2 : ∀ f, EOk (tabF T2 f) (tabE TX2 f) := tabE_cons ek37 et1
/-! seepage/core.Check -/
def g15 : List Gd := [[]]
noncomputable def E15 : PeF := S15.pe (tabE TX2) g15 false
theorem ek15 : EOk F15 E15 := Smry.pe_ok et2
noncomputable def TX3 : List (Nat × PeF) := (15, E15) :: TX2
theorem et3 : ∀ f, EOk (tabF T3 f) (tabE TX3 f) := tabE_cons ek15 et2
/-! seepage/core.New -/
def g23 : List Gd := []
noncomputable def E23 : PeF := S23.pe (tabE TX3) g23 false
theorem ek23 : EOk F23 E23 := Smry.pe_ok et3
noncomputable def TX4 : List (Nat × PeF) := (23, E23) :: TX3
theorem et4 : ∀ f, EOk (tabF T4 f) (tabE TX4 f) := tabE_cons ek23 et3
/-! seepage/label.Split -/
def g57 : List Gd := []
noncomputable def E57 : PeF := S57.pe (tabE TX4) g57 false
theorem ek57 : EOk F57 E57 := Smry.pe_ok et4
noncomputable def TX5 : List (Nat × PeF) := (57, E57) :: TX4
theorem et5 : ∀ f, EOk (tabF T5 f) (tabE TX5 f) := tabE_cons ek57 et4
/-! (*seepage/core.work).push -/
def g32 : List Gd := []
noncomputable def E32 : PeF := S32.pe (tabE TX5) g32 false
theorem ek32 : EOk F32 E32 := Smry.pe_ok et5
noncomputable def TX6 : List (Nat × PeF) := (32, E32) :: TX5
theorem et6 : ∀ f, EOk (tabF T6 f) (tabE TX6 f) := tabE_cons ek32 et5
/-! seepage/alu.Push -/
def g58 : List Gd := []
noncomputable def E58 : PeF := S58.pe (tabE TX6) g58 false
theorem ek58 : EOk F58 E58 := Smry.pe_ok et6
noncomputable def TX7 : List (Nat × PeF) := (58, E58) :: TX6
theorem et7 : ∀ f, EOk (tabF T7 f) (tabE TX7 f) := tabE_cons ek58 et6
/-! (*seepage/core.work).pushed -/
def g34 : List Gd := []
noncomputable def E34 : PeF := S34.pe (tabE TX7) g34 false
theorem ek34 : EOk F34 E34 := Smry.pe_ok et7
noncomputable def TX8 : List (Nat × PeF) := (34, E34) :: TX7
theorem et8 : ∀ f, EOk (tabF T8 f) (tabE TX8 f) := tabE_cons ek34 et7
/-! (*seepage/core.work).broken -/
def g35 : List Gd := []
noncomputable def E35 : PeF := S35.pe (tabE TX8) g35 true
theorem ek35 : EOk F35 E35 := Smry.pe_ok et8
noncomputable def TX9 : List (Nat × PeF) := (35, E35) :: TX8
theorem et9 : ∀ f, EOk (tabF T9 f) (tabE TX9 f) := tabE_cons ek35 et8
/-! (*seepage/core.work).first -/
def g59 : List Gd := []
noncomputable def E59 : PeF := S59.pe (tabE TX9) g59 true
theorem ek59 : EOk F59 E59 := Smry.pe_ok et9
noncomputable def TX10 : List (Nat × PeF) := (59, E59) :: TX9
theorem et10 : ∀ f, EOk (tabF T10 f) (tabE TX10 f) := tabE_cons ek59 et9
/-! seepage/label.And -/
def g95 : List Gd := []
noncomputable def E95 : PeF := S95.pe (tabE TX10) g95 false
theorem ek95 : EOk F95 E95 := Smry.pe_ok et10
noncomputable def TX11 : List (Nat × PeF) := (95, E95) :: TX10
theorem et11 : ∀ f, EOk (tabF T11 f) (tabE TX11 f) := tabE_cons ek95 et10
/-! (*seepage/core.work).stored -/
def g60 : List Gd := []
noncomputable def E60 : PeF := S60.pe (tabE TX11) g60 true
theorem ek60 : EOk F60 E60 := Smry.pe_ok et11
noncomputable def TX12 : List (Nat × PeF) := (60, E60) :: TX11
theorem et12 : ∀ f, EOk (tabF T12 f) (tabE TX12 f) := tabE_cons ek60 et11
/-! seepage/label.Bit -/
def g107 : List Gd := []
noncomputable def E107 : PeF := S107.pe (tabE TX12) g107 false
theorem ek107 : EOk F107 E107 := Smry.pe_ok et12
noncomputable def TX13 : List (Nat × PeF) := (107, E107) :: TX12
theorem et13 : ∀ f, EOk (tabF T13 f) (tabE TX13 f) := tabE_cons ek107 et12
/-! seepage/alu.Set -/
def g105 : List Gd := []
noncomputable def E105 : PeF := S105.pe (tabE TX13) g105 false
theorem ek105 : EOk F105 E105 := Smry.pe_ok et13
noncomputable def TX14 : List (Nat × PeF) := (105, E105) :: TX13
theorem et14 : ∀ f, EOk (tabF T14 f) (tabE TX14 f) := tabE_cons ek105 et13
/-! seepage/alu.NZ -/
def g103 : List Gd := [[], []]
noncomputable def E103 : PeF := S103.pe (tabE TX14) g103 false
theorem ek103 : EOk F103 E103 := Smry.pe_ok et14
noncomputable def TX15 : List (Nat × PeF) := (103, E103) :: TX14
theorem et15 : ∀ f, EOk (tabF T15 f) (tabE TX15 f) := tabE_cons ek103 et14
/-! seepage/alu.shifted -/
def g106 : List Gd := [[], []]
noncomputable def E106 : PeF := S106.pe (tabE TX15) g106 false
theorem ek106 : EOk F106 E106 := Smry.pe_ok et15
noncomputable def TX16 : List (Nat × PeF) := (106, E106) :: TX15
theorem et16 : ∀ f, EOk (tabF T16 f) (tabE TX16 f) := tabE_cons ek106 et15
/-! seepage/alu.Asl -/
def g67 : List Gd := [[]]
noncomputable def E67 : PeF := S67.pe (tabE TX16) g67 false
theorem ek67 : EOk F67 E67 := Smry.pe_ok et16
noncomputable def TX17 : List (Nat × PeF) := (67, E67) :: TX16
theorem et17 : ∀ f, EOk (tabF T17 f) (tabE TX17 f) := tabE_cons ek67 et16
/-! seepage/alu.Lsr -/
def g68 : List Gd := [[]]
noncomputable def E68 : PeF := S68.pe (tabE TX17) g68 false
theorem ek68 : EOk F68 E68 := Smry.pe_ok et17
noncomputable def TX18 : List (Nat × PeF) := (68, E68) :: TX17
theorem et18 : ∀ f, EOk (tabF T18 f) (tabE TX18 f) := tabE_cons ek68 et17
/-! seepage/alu.Get -/
def g108 : List Gd := []
noncomputable def E108 : PeF := S108.pe (tabE TX18) g108 false
theorem ek108 : EOk F108 E108 := Smry.pe_ok et18
noncomputable def TX19 : List (Nat × PeF) := (108, E108) :: TX18
theorem et19 : ∀ f, EOk (tabF T19 f) (tabE TX19 f) := tabE_cons ek108 et18
/-! seepage/alu.Rol -/
def g69 : List Gd := [[]]
noncomputable def E69 : PeF := S69.pe (tabE TX19) g69 false
theorem ek69 : EOk F69 E69 := Smry.pe_ok et19
noncomputable def TX20 : List (Nat × PeF) := (69, E69) :: TX19
theorem et20 : ∀ f, EOk (tabF T20 f) (tabE TX20 f) := tabE_cons ek69 et19
/-! seepage/alu.Ror -/
def g70 : List Gd := [[]]
noncomputable def E70 : PeF := S70.pe (tabE TX20) g70 false
theorem ek70 : EOk F70 E70 := Smry.pe_ok et20
noncomputable def TX21 : List (Nat × PeF) := (70, E70) :: TX20
theorem et21 : ∀ f, EOk (tabF T21 f) (tabE TX21 f) := tabE_cons ek70 et20
/-! seepage/label.Or -/
def g109 : List Gd := []
noncomputable def E109 : PeF := S109.pe (tabE TX21) g109 false
theorem ek109 : EOk F109 E109 := Smry.pe_ok et21
noncomputable def TX22 : List (Nat × PeF) := (109, E109) :: TX21
theorem et22 : ∀ f, EOk (tabF T22 f) (tabE TX22 f) := tabE_cons ek109 et21
/-! (*seepage/core.work).ora -/
def g71 : List Gd := [[]]
noncomputable def E71 : PeF := S71.pe (tabE TX22) g71 false
theorem ek71 : EOk F71 E71 := Smry.pe_ok et22
noncomputable def TX23 : List (Nat × PeF) := (71, E71) :: TX22
theorem et23 : ∀ f, EOk (tabF T23 f) (tabE TX23 f) := tabE_cons ek71 et22
/-! (*seepage/core.work).and -/
def g72 : List Gd := [[]]
noncomputable def E72 : PeF := S72.pe (tabE TX23) g72 false
theorem ek72 : EOk F72 E72 := Smry.pe_ok et23
noncomputable def TX24 : List (Nat × PeF) := (72, E72) :: TX23
theorem et24 : ∀ f, EOk (tabF T24 f) (tabE TX24 f) := tabE_cons ek72 et23
/-! seepage/label.Xor -/
def g110 : List Gd := []
noncomputable def E110 : PeF := S110.pe (tabE TX24) g110 false
theorem ek110 : EOk F110 E110 := Smry.pe_ok et24
noncomputable def TX25 : List (Nat × PeF) := (110, E110) :: TX24
theorem et25 : ∀ f, EOk (tabF T25 f) (tabE TX25 f) := tabE_cons ek110 et24
/-! (*seepage/core.work).eor -/
def g73 : List Gd := [[]]
noncomputable def E73 : PeF := S73.pe (tabE TX25) g73 false
theorem ek73 : EOk F73 E73 := Smry.pe_ok et25
noncomputable def TX26 : List (Nat × PeF) := (73, E73) :: TX25
theorem et26 : ∀ f, EOk (tabF T26 f) (tabE TX26 f) := tabE_cons ek73 et25
/-! seepage/alu.Adc -/
def g111 : List Gd := [[], [], []]
noncomputable def E111 : PeF := S111.pe (tabE TX26) g111 false
theorem ek111 : EOk F111 E111 := Smry.pe_ok et26
noncomputable def TX27 : List (Nat × PeF) := (111, E111) :: TX26
theorem et27 : ∀ f, EOk (tabF T27 f) (tabE TX27 f) := tabE_cons ek111 et26
/-! (*seepage/core.work).adc -/
def g74 : List Gd := [[]]
noncomputable def E74 : PeF := S74.pe (tabE TX27) g74 false
theorem ek74 : EOk F74 E74 := Smry.pe_ok et27
noncomputable def TX28 : List (Nat × PeF) := (74, E74) :: TX27
theorem et28 : ∀ f, EOk (tabF T28 f) (tabE TX28 f) := tabE_cons ek74 et27
/-! seepage/alu.Sbx -/
def g116 : List Gd := [[], []]
noncomputable def E116 : PeF := S116.pe (tabE TX28) g116 false
theorem ek116 : EOk F116 E116 := Smry.pe_ok et28
noncomputable def TX29 : List (Nat × PeF) := (116, E116) :: TX28
theorem et29 : ∀ f, EOk (tabF T29 f) (tabE TX29 f) := tabE_cons ek116 et28
/-! seepage/alu.Cmp -/
def g112 : List Gd := [[]]
noncomputable def E112 : PeF := S112.pe (tabE TX29) g112 false
theorem ek112 : EOk F112 E112 := Smry.pe_ok et29
noncomputable def TX30 : List (Nat × PeF) := (112, E112) :: TX29
theorem et30 : ∀ f, EOk (tabF T30 f) (tabE TX30 f) := tabE_cons ek112 et29
/-! (*seepage/core.work).cmp -/
def g75 : List Gd := [[]]
noncomputable def E75 : PeF := S75.pe (tabE TX30) g75 false
theorem ek75 : EOk F75 E75 := Smry.pe_ok et30
noncomputable def TX31 : List (Nat × PeF) := (75, E75) :: TX30
theorem et31 : ∀ f, EOk (tabF T31 f) (tabE TX31 f) := tabE_cons ek75 et30
/-! seepage/alu.Sbc -/
def g113 : List Gd := [[]]
noncomputable def E113 : PeF := S113.pe (tabE TX31) g113 false
theorem ek113 : EOk F113 E113 := Smry.pe_ok et31
noncomputable def TX32 : List (Nat × PeF) := (113, E113) :: TX31
theorem et32 : ∀ f, EOk (tabF T32 f) (tabE TX32 f) := tabE_cons ek113 et31
/-! (*seepage/core.work).sbc -/
def g76 : List Gd := [[]]
noncomputable def E76 : PeF := S76.pe (tabE TX32) g76 false
theorem ek76 : EOk F76 E76 := Smry.pe_ok et32
noncomputable def TX33 : List (Nat × PeF) := (76, E76) :: TX32
theorem et33 : ∀ f, EOk (tabF T33 f) (tabE TX33 f) := tabE_cons ek76 et32
/-! (*seepage/core.work).turned -/
def g50 : List Gd := [[(.v 15, true), (.v 30, false), (.v 31, true)], [(.v 15, false), (.v 16, true), (.v 30, false), (.v 31, true)], [(.v 15, false), (.v 16, false), (.v 17, true), (.v 30, false), (.v 31, true)], [(.v 15, false), (.v 16, false), (.v 17, false), (.v 18, true), (.v 30, false), (.v 31, true)], [(.v 15, false), (.v 16, false), (.v 17, false), (.v 18, false), (.v 19, true), (.v 30, false), (.v 31, true)], [(.v 15, false), (.v 16, false), (.v 17, false), (.v 18, false), (.v 19, false), (.v 20, true), (.v 30, false), (.v 31, true)], [(.v 15, false), (.v 16, false), (.v 17, false), (.v 18, false), (.v 19, false), (.v 20, false), (.v 21, true), (.v 30, false), (.v 31, true)], [(.v 15, false), (.v 16, false), (.v 17, false), (.v 18, false), (.v 19, false), (.v 20, false), (.v 21, false), (.v 30, false), (.v 31, true)], [(.v 15, false), (.v 16, false), (.v 17, false), (.v 18, false), (.v 19, false), (.v 20, false), (.v 21, false), (.v 22, false), (.v 23, true), (.v 24, true), (.v 25, true), (.v 26, true), (.v 27, true), (.v 28, true), (.v 29, true), (.v 30, true), (.v 31, false)], [(.v 70, true), (.v 81, false), (.v 82, true)], [(.v 70, false), (.v 71, true), (.v 81, false), (.v 82, true)], [(.v 70, false), (.v 71, false), (.v 72, true), (.v 81, false), (.v 82, true)], [(.v 70, false), (.v 71, false), (.v 72, false), (.v 73, true), (.v 81, false), (.v 82, true)], [(.v 70, false), (.v 71, false), (.v 72, false), (.v 73, false), (.v 74, true), (.v 81, false), (.v 82, true)], [(.v 70, false), (.v 71, false), (.v 72, false), (.v 73, false), (.v 74, false), (.v 81, false), (.v 82, true)]]
noncomputable def E50 : PeF := S50.pe (tabE TX33) g50 true
theorem ek50 : EOk F50 E50 := Smry.pe_ok et33
noncomputable def TX34 : List (Nat × PeF) := (50, E50) :: TX33
theorem et34 : ∀ f, EOk (tabF T34 f) (tabE TX34 f) := tabE_cons ek50 et33
/-! (*seepage/core.work).worked -/
def g36 : List Gd := [[], [(.v 30, true), (.v 31, true), (.v 32, true)], [(.v 32, false), (.v 53, false), (.v 54, true), (.v 55, true), (.v 56, true)]]
noncomputable def E36 : PeF := S36.pe (tabE TX34) g36 true
theorem ek36 : EOk F36 E36 := Smry.pe_ok et34
noncomputable def TX35 : List (Nat × PeF) := (36, E36) :: TX34
theorem et35 : ∀ f, EOk (tabF T35 f) (tabE TX35 f) := tabE_cons ek36 et34
/-! seepage/core.Ask -/
def g14 : List Gd := [[], [], [(.v 12, false), (.v 17, false), (.v 18, false), (.v 19, false), (.v 20, false), (.v 21, false), (.v 23, false), (.v 31, false), (.v 35, false), (.v 36, false), (.v 41, true)], [(.v 12, false), (.v 17, false), (.v 18, false), (.v 19, false), (.v 20, false), (.v 21, false), (.v 23, false), (.v 31, false), (.v 35, false), (.v 36, false), (.v 41, false), (.v 64, true)], [(.v 12, false), (.v 17, false), (.v 18, false), (.v 19, false), (.v 20, false), (.v 21, false), (.v 23, false), (.v 31, false), (.v 35, false), (.v 36, false), (.v 41, false), (.v 64, false)]]
noncomputable def E14 : PeF := S14.pe (tabE TX35) g14 true
theorem ek14 : EOk F14 E14 := Smry.pe_ok et35
noncomputable def TX36 : List (Nat × PeF) := (14, E14) :: TX35
theorem et36 : ∀ f, EOk (tabF T36 f) (tabE TX36 f) := tabE_cons ek14 et35
/-! (*seepage/core.work).fetch -/
def g26 : List Gd := []
noncomputable def E26 : PeF := S26.pe (tabE TX36) g26 false
theorem ek26 : EOk F26 E26 := Smry.pe_ok et36
noncomputable def TX37 : List (Nat × PeF) := (26, E26) :: TX36
theorem et37 : ∀ f, EOk (tabF T37 f) (tabE TX37 f) := tabE_cons ek26 et36
/-! (*seepage/core.work).flag -/
def g66 : List Gd := [[]]
noncomputable def E66 : PeF := S66.pe (tabE TX37) g66 false
theorem ek66 : EOk F66 E66 := Smry.pe_ok et37
noncomputable def TX38 : List (Nat × PeF) := (66, E66) :: TX37
theorem et38 : ∀ f, EOk (tabF T38 f) (tabE TX38 f) := tabE_cons ek66 et37
/-! (*seepage/core.work).without -/
def g49 : List Gd := [[(.v 14, true)], [(.v 14, false), (.v 15, true)], [(.v 14, false), (.v 15, false), (.v 16, true)], [(.v 14, false), (.v 15, false), (.v 16, false), (.v 17, true)], [(.v 14, false), (.v 15, false), (.v 16, false), (.v 17, false), (.v 18, true)], [(.v 14, false), (.v 15, false), (.v 16, false), (.v 17, false), (.v 18, false), (.v 19, false), (.v 20, true)], [(.v 14, false), (.v 15, false), (.v 16, false), (.v 17, false), (.v 18, false), (.v 19, false), (.v 20, false), (.v 25, true)], [(.v 14, false), (.v 15, false), (.v 16, false), (.v 17, false), (.v 18, false), (.v 19, false), (.v 20, false), (.v 25, false), (.v 30, true)], [(.v 14, false), (.v 15, false), (.v 16, false), (.v 17, false), (.v 18, false), (.v 19, false), (.v 20, false), (.v 25, false), (.v 30, false), (.v 35, true)], [(.v 14, false), (.v 15, false), (.v 16, false), (.v 17, false), (.v 18, false), (.v 19, false), (.v 20, false), (.v 25, false), (.v 30, false), (.v 35, false), (.v 40, true)], [(.v 14, false), (.v 15, false), (.v 16, false), (.v 17, false), (.v 18, false), (.v 19, false), (.v 20, false), (.v 25, false), (.v 30, false), (.v 35, false), (.v 40, false), (.v 55, true)], [(.v 14, false), (.v 15, false), (.v 16, false), (.v 17, false), (.v 18, false), (.v 19, false), (.v 20, false), (.v 25, false), (.v 30, false), (.v 35, false), (.v 40, false), (.v 55, false), (.v 70, true)], [(.v 14, false), (.v 15, false), (.v 16, false), (.v 17, false), (.v 18, false), (.v 19, false), (.v 20, false), (.v 25, false), (.v 30, false), (.v 35, false), (.v 40, false), (.v 55, false), (.v 70, false), (.v 85, true)], [(.v 14, false), (.v 15, false), (.v 16, false), (.v 17, false), (.v 18, false), (.v 19, false), (.v 20, false), (.v 25, false), (.v 30, false), (.v 35, false), (.v 40, false), (.v 55, false), (.v 70, false), (.v 85, false), (.v 100, true)], [(.v 14, false), (.v 15, false), (.v 16, false), (.v 17, false), (.v 18, false), (.v 19, false), (.v 20, false), (.v 25, false), (.v 30, false), (.v 35, false), (.v 40, false), (.v 55, false), (.v 70, false), (.v 85, false), (.v 100, false), (.v 115, true)], [(.v 14, false), (.v 15, false), (.v 16, false), (.v 17, false), (.v 18, false), (.v 19, false), (.v 20, false), (.v 25, false), (.v 30, false), (.v 35, false), (.v 40, false), (.v 55, false), (.v 70, false), (.v 85, false), (.v 100, false), (.v 115, false), (.v 130, true)]]
noncomputable def E49 : PeF := S49.pe (tabE TX38) g49 false
theorem ek49 : EOk F49 E49 := Smry.pe_ok et38
noncomputable def TX39 : List (Nat × PeF) := (49, E49) :: TX38
theorem et39 : ∀ f, EOk (tabF T39 f) (tabE TX39 f) := tabE_cons ek49 et38
/-! (*seepage/core.work).cpx -/
def g77 : List Gd := [[]]
noncomputable def E77 : PeF := S77.pe (tabE TX39) g77 false
theorem ek77 : EOk F77 E77 := Smry.pe_ok et39
noncomputable def TX40 : List (Nat × PeF) := (77, E77) :: TX39
theorem et40 : ∀ f, EOk (tabF T40 f) (tabE TX40 f) := tabE_cons ek77 et39
/-! (*seepage/core.work).cpy -/
def g78 : List Gd := [[]]
noncomputable def E78 : PeF := S78.pe (tabE TX40) g78 false
theorem ek78 : EOk F78 E78 := Smry.pe_ok et40
noncomputable def TX41 : List (Nat × PeF) := (78, E78) :: TX40
theorem et41 : ∀ f, EOk (tabF T41 f) (tabE TX41 f) := tabE_cons ek78 et40
/-! seepage/alu.Bit -/
def g114 : List Gd := [[], [], []]
noncomputable def E114 : PeF := S114.pe (tabE TX41) g114 false
theorem ek114 : EOk F114 E114 := Smry.pe_ok et41
noncomputable def TX42 : List (Nat × PeF) := (114, E114) :: TX41
theorem et42 : ∀ f, EOk (tabF T42 f) (tabE TX42 f) := tabE_cons ek114 et41
/-! (*seepage/core.work).bit -/
def g79 : List Gd := [[]]
noncomputable def E79 : PeF := S79.pe (tabE TX42) g79 false
theorem ek79 : EOk F79 E79 := Smry.pe_ok et42
noncomputable def TX43 : List (Nat × PeF) := (79, E79) :: TX42
theorem et43 : ∀ f, EOk (tabF T43 f) (tabE TX43 f) := tabE_cons ek79 et42
/-! (*seepage/core.work).lda -/
def g80 : List Gd := [[]]
noncomputable def E80 : PeF := S80.pe (tabE TX43) g80 false
theorem ek80 : EOk F80 E80 := Smry.pe_ok et43
noncomputable def TX44 : List (Nat × PeF) := (80, E80) :: TX43
theorem et44 : ∀ f, EOk (tabF T44 f) (tabE TX44 f) := tabE_cons ek80 et43
/-! (*seepage/core.work).ldx -/
def g81 : List Gd := [[]]
noncomputable def E81 : PeF := S81.pe (tabE TX44) g81 false
theorem ek81 : EOk F81 E81 := Smry.pe_ok et44
noncomputable def TX45 : List (Nat × PeF) := (81, E81) :: TX44
theorem et45 : ∀ f, EOk (tabF T45 f) (tabE TX45 f) := tabE_cons ek81 et44
/-! (*seepage/core.work).ldy -/
def g82 : List Gd := [[]]
noncomputable def E82 : PeF := S82.pe (tabE TX45) g82 false
theorem ek82 : EOk F82 E82 := Smry.pe_ok et45
noncomputable def TX46 : List (Nat × PeF) := (82, E82) :: TX45
theorem et46 : ∀ f, EOk (tabF T46 f) (tabE TX46 f) := tabE_cons ek82 et45
/-! (*seepage/core.work).lax -/
def g83 : List Gd := [[]]
noncomputable def E83 : PeF := S83.pe (tabE TX46) g83 false
theorem ek83 : EOk F83 E83 := Smry.pe_ok et46
noncomputable def TX47 : List (Nat × PeF) := (83, E83) :: TX46
theorem et47 : ∀ f, EOk (tabF T47 f) (tabE TX47 f) := tabE_cons ek83 et46
/-! (*seepage/core.work).las -/
def g84 : List Gd := [[]]
noncomputable def E84 : PeF := S84.pe (tabE TX47) g84 false
theorem ek84 : EOk F84 E84 := Smry.pe_ok et47
noncomputable def TX48 : List (Nat × PeF) := (84, E84) :: TX47
theorem et48 : ∀ f, EOk (tabF T48 f) (tabE TX48 f) := tabE_cons ek84 et47
/-! (*seepage/core.work).anc -/
def g85 : List Gd := [[], []]
noncomputable def E85 : PeF := S85.pe (tabE TX48) g85 false
theorem ek85 : EOk F85 E85 := Smry.pe_ok et48
noncomputable def TX49 : List (Nat × PeF) := (85, E85) :: TX48
theorem et49 : ∀ f, EOk (tabF T49 f) (tabE TX49 f) := tabE_cons ek85 et48
/-! (*seepage/core.work).alr -/
def g86 : List Gd := [[]]
noncomputable def E86 : PeF := S86.pe (tabE TX49) g86 false
theorem ek86 : EOk F86 E86 := Smry.pe_ok et49
noncomputable def TX50 : List (Nat × PeF) := (86, E86) :: TX49
theorem et50 : ∀ f, EOk (tabF T50 f) (tabE TX50 f) := tabE_cons ek86 et49
/-! seepage/alu.Arr -/
def g115 : List Gd := [[], [], []]
noncomputable def E115 : PeF := S115.pe (tabE TX50) g115 false
theorem ek115 : EOk F115 E115 := Smry.pe_ok et50
noncomputable def TX51 : List (Nat × PeF) := (115, E115) :: TX50
theorem et51 : ∀ f, EOk (tabF T51 f) (tabE TX51 f) := tabE_cons ek115 et50
/-! (*seepage/core.work).arr -/
def g87 : List Gd := [[]]
noncomputable def E87 : PeF := S87.pe (tabE TX51) g87 false
theorem ek87 : EOk F87 E87 := Smry.pe_ok et51
noncomputable def TX52 : List (Nat × PeF) := (87, E87) :: TX51
theorem et52 : ∀ f, EOk (tabF T52 f) (tabE TX52 f) := tabE_cons ek87 et51
/-! (*seepage/core.work).sbx -/
def g88 : List Gd := [[]]
noncomputable def E88 : PeF := S88.pe (tabE TX52) g88 false
theorem ek88 : EOk F88 E88 := Smry.pe_ok et52
noncomputable def TX53 : List (Nat × PeF) := (88, E88) :: TX52
theorem et53 : ∀ f, EOk (tabF T53 f) (tabE TX53 f) := tabE_cons ek88 et52
/-! (*seepage/core.work).ane -/
def g89 : List Gd := [[]]
noncomputable def E89 : PeF := S89.pe (tabE TX53) g89 false
theorem ek89 : EOk F89 E89 := Smry.pe_ok et53
noncomputable def TX54 : List (Nat × PeF) := (89, E89) :: TX53
theorem et54 : ∀ f, EOk (tabF T54 f) (tabE TX54 f) := tabE_cons ek89 et53
/-! (*seepage/core.work).lxa -/
def g90 : List Gd := [[]]
noncomputable def E90 : PeF := S90.pe (tabE TX54) g90 false
theorem ek90 : EOk F90 E90 := Smry.pe_ok et54
noncomputable def TX55 : List (Nat × PeF) := (90, E90) :: TX54
theorem et55 : ∀ f, EOk (tabF T55 f) (tabE TX55 f) := tabE_cons ek90 et54
/-! (*seepage/core.work).with -/
def g51 : List Gd := [[(.v 15, true), (.v 54, false), (.v 55, true)], [(.v 15, false), (.v 16, true), (.v 54, false), (.v 55, true)], [(.v 15, false), (.v 16, false), (.v 17, true), (.v 54, false), (.v 55, true)], [(.v 15, false), (.v 16, false), (.v 17, false), (.v 18, true), (.v 54, false), (.v 55, true)], [(.v 15, false), (.v 16, false), (.v 17, false), (.v 18, false), (.v 19, true), (.v 54, false), (.v 55, true)], [(.v 15, false), (.v 16, false), (.v 17, false), (.v 18, false), (.v 19, false), (.v 20, true), (.v 54, false), (.v 55, true)], [(.v 15, false), (.v 16, false), (.v 17, false), (.v 18, false), (.v 19, false), (.v 20, false), (.v 21, true), (.v 54, false), (.v 55, true)], [(.v 15, false), (.v 16, false), (.v 17, false), (.v 18, false), (.v 19, false), (.v 20, false), (.v 21, false), (.v 22, true), (.v 54, false), (.v 55, true)], [(.v 15, false), (.v 16, false), (.v 17, false), (.v 18, false), (.v 19, false), (.v 20, false), (.v 21, false), (.v 22, false), (.v 23, true), (.v 54, false), (.v 55, true)], [(.v 15, false), (.v 16, false), (.v 17, false), (.v 18, false), (.v 19, false), (.v 20, false), (.v 21, false), (.v 22, false), (.v 23, false), (.v 24, true), (.v 54, false), (.v 55, true)], [(.v 15, false), (.v 16, false), (.v 17, false), (.v 18, false), (.v 19, false), (.v 20, false), (.v 21, false), (.v 22, false), (.v 23, false), (.v 24, false), (.v 25, true), (.v 54, false), (.v 55, true)], [(.v 15, false), (.v 16, false), (.v 17, false), (.v 18, false), (.v 19, false), (.v 20, false), (.v 21, false), (.v 22, false), (.v 23, false), (.v 24, false), (.v 25, false), (.v 26, true), (.v 54, false), (.v 55, true)], [(.v 15, false), (.v 16, false), (.v 17, false), (.v 18, false), (.v 19, false), (.v 20, false), (.v 21, false), (.v 22, false), (.v 23, false), (.v 24, false), (.v 25, false), (.v 26, false), (.v 27, true), (.v 54, false), (.v 55, true)], [(.v 15, false), (.v 16, false), (.v 17, false), (.v 18, false), (.v 19, false), (.v 20, false), (.v 21, false), (.v 22, false), (.v 23, false), (.v 24, false), (.v 25, false), (.v 26, false), (.v 27, false), (.v 28, true), (.v 54, false), (.v 55, true)], [(.v 15, false), (.v 16, false), (.v 17, false), (.v 18, false), (.v 19, false), (.v 20, false), (.v 21, false), (.v 22, false), (.v 23, false), (.v 24, false), (.v 25, false), (.v 26, false), (.v 27, false), (.v 28, false), (.v 29, true), (.v 54, false), (.v 55, true)], [(.v 15, false), (.v 16, false), (.v 17, false), (.v 18, false), (.v 19, false), (.v 20, false), (.v 21, false), (.v 22, false), (.v 23, false), (.v 24, false), (.v 25, false), (.v 26, false), (.v 27, false), (.v 28, false), (.v 29, false), (.v 30, true), (.v 54, false), (.v 55, true)], [(.v 15, false), (.v 16, false), (.v 17, false), (.v 18, false), (.v 19, false), (.v 20, false), (.v 21, false), (.v 22, false), (.v 23, false), (.v 24, false), (.v 25, false), (.v 26, false), (.v 27, false), (.v 28, false), (.v 29, false), (.v 30, false), (.v 31, true), (.v 54, false), (.v 55, true)], [(.v 15, false), (.v 16, false), (.v 17, false), (.v 18, false), (.v 19, false), (.v 20, false), (.v 21, false), (.v 22, false), (.v 23, false), (.v 24, false), (.v 25, false), (.v 26, false), (.v 27, false), (.v 28, false), (.v 29, false), (.v 30, false), (.v 31, false), (.v 32, true), (.v 54, false), (.v 55, true)], [(.v 15, false), (.v 16, false), (.v 17, false), (.v 18, false), (.v 19, false), (.v 20, false), (.v 21, false), (.v 22, false), (.v 23, false), (.v 24, false), (.v 25, false), (.v 26, false), (.v 27, false), (.v 28, false), (.v 29, false), (.v 30, false), (.v 31, false), (.v 32, false), (.v 33, true), (.v 54, false), (.v 55, true)], [(.v 15, false), (.v 16, false), (.v 17, false), (.v 18, false), (.v 19, false), (.v 20, false), (.v 21, false), (.v 22, false), (.v 23, false), (.v 24, false), (.v 25, false), (.v 26, false), (.v 27, false), (.v 28, false), (.v 29, false), (.v 30, false), (.v 31, false), (.v 32, false), (.v 33, false), (.v 54, false), (.v 55, true)]]
noncomputable def E51 : PeF := S51.pe (tabE TX55) g51 true
theorem ek51 : EOk F51 E51 := Smry.pe_ok et55
noncomputable def TX56 : List (Nat × PeF) := (51, E51) :: TX55
theorem et56 : ∀ f, EOk (tabF T56 f) (tabE TX56 f) := tabE_cons ek51 et55
/-! (*seepage/core.work).taken -/
def g91 : List Gd := []
noncomputable def E91 : PeF := S91.pe (tabE TX56) g91 true
theorem ek91 : EOk F91 E91 := Smry.pe_ok et56
noncomputable def TX57 : List (Nat × PeF) := (91, E91) :: TX56
theorem et57 : ∀ f, EOk (tabF T57 f) (tabE TX57 f) := tabE_cons ek91 et56
/-! (*seepage/core.work).branch -/
def g52 : List Gd := [[(.v 15, true)]]
noncomputable def E52 : PeF := S52.pe (tabE TX57) g52 true
theorem ek52 : EOk F52 E52 := Smry.pe_ok et57
noncomputable def TX58 : List (Nat × PeF) := (52, E52) :: TX57
theorem et58 : ∀ f, EOk (tabF T58 f) (tabE TX58 f) := tabE_cons ek52 et57
/-! seepage/alu.Pull -/
def g93 : List Gd := []
noncomputable def E93 : PeF := S93.pe (tabE TX58) g93 false
theorem ek93 : EOk F93 E93 := Smry.pe_ok et58
noncomputable def TX59 : List (Nat × PeF) := (93, E93) :: TX58
theorem et59 : ∀ f, EOk (tabF T59 f) (tabE TX59 f) := tabE_cons ek93 et58
/-! (*seepage/core.work).pulls -/
def g53 : List Gd := [[(.v 17, false), (.v 21, false)]]
noncomputable def E53 : PeF := S53.pe (tabE TX59) g53 false
theorem ek53 : EOk F53 E53 := Smry.pe_ok et59
noncomputable def TX60 : List (Nat × PeF) := (53, E53) :: TX59
theorem et60 : ∀ f, EOk (tabF T60 f) (tabE TX60 f) := tabE_cons ek53 et59
/-! (*seepage/core.work).memory -/
def g54 : List Gd := []
noncomputable def E54 : PeF := S54.pe (tabE TX60) g54 false
theorem ek54 : EOk F54 E54 := Smry.pe_ok et60
noncomputable def TX61 : List (Nat × PeF) := (54, E54) :: TX60
theorem et61 : ∀ f, EOk (tabF T61 f) (tabE TX61 f) := tabE_cons ek54 et60
/-! seepage/label.Word -/
def g121 : List Gd := []
noncomputable def E121 : PeF := S121.pe (tabE TX61) g121 false
theorem ek121 : EOk F121 E121 := Smry.pe_ok et61
noncomputable def TX62 : List (Nat × PeF) := (121, E121) :: TX61
theorem et62 : ∀ f, EOk (tabF T62 f) (tabE TX62 f) := tabE_cons ek121 et61
/-! (*seepage/core.work).aim -/
def g117 : List Gd := []
noncomputable def E117 : PeF := S117.pe (tabE TX62) g117 false
theorem ek117 : EOk F117 E117 := Smry.pe_ok et62
noncomputable def TX63 : List (Nat × PeF) := (117, E117) :: TX62
theorem et63 : ∀ f, EOk (tabF T63 f) (tabE TX63 f) := tabE_cons ek117 et62
/-! (*seepage/core.work).wide -/
def g118 : List Gd := [[]]
noncomputable def E118 : PeF := S118.pe (tabE TX63) g118 false
theorem ek118 : EOk F118 E118 := Smry.pe_ok et63
noncomputable def TX64 : List (Nat × PeF) := (118, E118) :: TX63
theorem et64 : ∀ f, EOk (tabF T64 f) (tabE TX64 f) := tabE_cons ek118 et63
/-! (*seepage/core.work).page -/
def g119 : List Gd := []
noncomputable def E119 : PeF := S119.pe (tabE TX64) g119 false
theorem ek119 : EOk F119 E119 := Smry.pe_ok et64
noncomputable def TX65 : List (Nat × PeF) := (119, E119) :: TX64
theorem et65 : ∀ f, EOk (tabF T65 f) (tabE TX65 f) := tabE_cons ek119 et64
/-! (*seepage/core.work).address -/
def g94 : List Gd := [[(.v 21, false), (.v 22, false), (.v 23, true), (.v 24, true), (.v 25, true)], [(.v 19, true), (.v 21, false), (.v 22, false), (.v 25, false), (.v 40, true), (.v 41, true)], [(.v 21, false), (.v 22, false), (.v 25, false), (.v 41, false), (.v 56, true), (.v 57, true), (.v 58, true)], [(.v 21, false), (.v 22, false), (.v 25, false), (.v 41, false), (.v 58, false), (.v 84, true)], [(.v 21, false), (.v 22, false), (.v 25, false), (.v 41, false), (.v 58, false), (.v 80, false), (.v 83, false), (.v 84, false), (.v 99, true)], [(.v 21, false), (.v 22, false), (.v 25, false), (.v 41, false), (.v 58, false), (.v 80, false), (.v 83, false), (.v 84, false), (.v 99, false)]]
noncomputable def E94 : PeF := S94.pe (tabE TX65) g94 false
theorem ek94 : EOk F94 E94 := Smry.pe_ok et65
noncomputable def TX66 : List (Nat × PeF) := (94, E94) :: TX65
theorem et66 : ∀ f, EOk (tabF T66 f) (tabE TX66 f) := tabE_cons ek94 et65
/-! (*seepage/core.work).works -/
def g55 : List Gd := [[], [(.v 33, true)], [(.v 33, false), (.v 54, false), (.v 70, true)], [(.v 33, false), (.v 54, false), (.v 70, false), (.v 86, false), (.v 113, false), (.v 114, true)]]
noncomputable def E55 : PeF := S55.pe (tabE TX66) g55 true
theorem ek55 : EOk F55 E55 := Smry.pe_ok et66
noncomputable def TX67 : List (Nat × PeF) := (55, E55) :: TX66
theorem et67 : ∀ f, EOk (tabF T67 f) (tabE TX67 f) := tabE_cons ek55 et66
/-! (*seepage/core.work).far -/
def g96 : List Gd := []
noncomputable def E96 : PeF := S96.pe (tabE TX67) g96 false
theorem ek96 : EOk F96 E96 := Smry.pe_ok et67
noncomputable def TX68 : List (Nat × PeF) := (96, E96) :: TX67
theorem et68 : ∀ f, EOk (tabF T68 f) (tabE TX68 f) := tabE_cons ek96 et67
/-! (*seepage/core.work).jump -/
def g97 : List Gd := [[(.v 15, false), (.v 16, true)]]
noncomputable def E97 : PeF := S97.pe (tabE TX68) g97 false
theorem ek97 : EOk F97 E97 := Smry.pe_ok et68
noncomputable def TX69 : List (Nat × PeF) := (97, E97) :: TX68
theorem et69 : ∀ f, EOk (tabF T69 f) (tabE TX69 f) := tabE_cons ek97 et68
/-! (*seepage/core.work).call -/
def g98 : List Gd := []
noncomputable def E98 : PeF := S98.pe (tabE TX69) g98 false
theorem ek98 : EOk F98 E98 := Smry.pe_ok et69
noncomputable def TX70 : List (Nat × PeF) := (98, E98) :: TX69
theorem et70 : ∀ f, EOk (tabF T70 f) (tabE TX70 f) := tabE_cons ek98 et69
/-! (*seepage/core.work).back -/
def g99 : List Gd := []
noncomputable def E99 : PeF := S99.pe (tabE TX70) g99 false
theorem ek99 : EOk F99 E99 := Smry.pe_ok et70
noncomputable def TX71 : List (Nat × PeF) := (99, E99) :: TX70
theorem et71 : ∀ f, EOk (tabF T71 f) (tabE TX71 f) := tabE_cons ek99 et70
/-! (*seepage/core.work).interrupt -/
def g100 : List Gd := [[(.v 17, false), (.v 19, false), (.v 21, false), (.v 23, false)]]
noncomputable def E100 : PeF := S100.pe (tabE TX71) g100 false
theorem ek100 : EOk F100 E100 := Smry.pe_ok et71
noncomputable def TX72 : List (Nat × PeF) := (100, E100) :: TX71
theorem et72 : ∀ f, EOk (tabF T72 f) (tabE TX72 f) := tabE_cons ek100 et71
/-! (*seepage/core.work).control -/
def g56 : List Gd := [[(.v 15, false), (.v 29, true)], [(.v 15, false), (.v 29, false), (.v 45, true)], [(.v 15, false), (.v 29, false), (.v 45, false)], [(.v 15, false), (.v 29, false), (.v 45, false), (.v 61, false)]]
noncomputable def E56 : PeF := S56.pe (tabE TX72) g56 false
theorem ek56 : EOk F56 E56 := Smry.pe_ok et72
noncomputable def TX73 : List (Nat × PeF) := (56, E56) :: TX72
theorem et73 : ∀ f, EOk (tabF T73 f) (tabE TX73 f) := tabE_cons ek56 et72
/-! (*seepage/core.work).goes -/
def g27 : List Gd := [[(.v 15, true)], [(.v 15, false), (.v 30, true)], [(.v 15, false), (.v 30, false), (.v 47, true)], [(.v 15, false), (.v 30, false), (.v 47, false), (.v 63, true)], [(.v 15, false), (.v 30, false), (.v 47, false), (.v 63, false), (.v 82, true)], [(.v 15, false), (.v 30, false), (.v 47, false), (.v 63, false), (.v 82, false), (.v 98, false), (.v 179, true), (.v 180, true), (.v 181, true)], [(.v 15, false), (.v 30, false), (.v 47, false), (.v 63, false), (.v 82, false), (.v 98, false), (.v 181, false)]]
noncomputable def E27 : PeF := S27.pe (tabE TX73) g27 true
theorem ek27 : EOk F27 E27 := Smry.pe_ok et73
noncomputable def TX74 : List (Nat × PeF) := (27, E27) :: TX73
theorem et74 : ∀ f, EOk (tabF T74 f) (tabE TX74 f) := tabE_cons ek27 et73
/-! (*seepage/core.work).lines -/
def g28 : List Gd := []
noncomputable def E28 : PeF := S28.pe (tabE TX74) g28 false
theorem ek28 : EOk F28 E28 := Smry.pe_ok et74
noncomputable def TX75 : List (Nat × PeF) := (28, E28) :: TX74
theorem et75 : ∀ f, EOk (tabF T75 f) (tabE TX75 f) := tabE_cons ek28 et74
/-! seepage/core.Take -/
def g13 : List Gd := [[], [(.v 16, false)], [(.v 10, false), (.v 16, false)], [(.v 16, false), (.v 24, true)], [(.v 16, false), (.v 24, false)], [(.v 16, false)]]
noncomputable def E13 : PeF := S13.pe (tabE TX75) g13 true
theorem ek13 : EOk F13 E13 := Smry.pe_ok et75
noncomputable def TX76 : List (Nat × PeF) := (13, E13) :: TX75
theorem et76 : ∀ f, EOk (tabF T76 f) (tabE TX76 f) := tabE_cons ek13 et75
/-! seepage/seepagelaw10.awake -/
def g9 : List Gd := [[], [], [], [(.v 18, true)], [(.v 18, true)]]
def gl9 : List (LAnn × List Gd) := [(L100900, [[]])]
noncomputable def E9w : PeF := S9.pe (lpE gl9 12 (tabE TX76)) g9 true
theorem ek9w : EOk F9 E9w := Smry.pe_ok (lpE_ok (l := gl9) et76)
end Go.Proofs.YtalnndmnnffnmaaGreat.Cr
/-! ## CrCb -/
set_option linter.unusedVariables false
set_option linter.unusedSimpArgs false
namespace Go.Proofs.YtalnndmnnffnmaaGreat.Cr
open Go Go.Proofs Go.Proofs.YtalnndmnnffnmaaGreat.Sx

/-- The chapter's examples. -/
def isTT (ri : List (Option A)) (rb : List (Option B)) (_ : Pc) : Bool := match ri, rb with
  | [], [some (.c true), some (.c true)] => true
  | _, _ => false
theorem aw9e : (peRun E9w [] [] 0 0 [] [] [] .leaf).ok isTT = true := by kernel_rfl
theorem tt_of {F : Fun} {is : List Int} {bs : List Bool} {a b : Bool} {ri : List (Option A)} {rb : List (Option B)} {c : Pc} {ρ : Env} (h1 : (F is bs) = ([], [a, b])) (h2 : ∀ j x, rb.getD j none = some x → x.d ρ = (F is bs).2.getD j false) (h3 : isTT ri rb c = true) : F is bs = ([], [true, true]) := by
  unfold isTT at h3
  split at h3
  · have a0 := h2 0 _ rfl; have a1 := h2 1 _ rfl
    rw [h1] at a0 a1 ⊢
    simp only [List.getD_cons_zero, List.getD_cons_succ, B.d] at a0 a1
    rw [← a0, ← a1]
  · cases h3
theorem awake9 : F9 [] [] = ([], [true, true]) := by
  obtain ⟨ρ', ri, rb, c, _, _, _, h1, h2, h3⟩ := peRun_ok ek9w (chk := isTT) aw9e (envOf [] []) [] [] (fun _ _ => rfl) (fun _ _ => rfl) (fun _ _ => ⟨Good.nil, (fun p hp => by cases hp), fun p hp => by cases hp⟩)
  exact tt_of (F := F9) (a := _) (b := _) rfl h2 h3
noncomputable def E9 : PeF := PeF.cst0 ([], [true, true])
theorem ek9 : EOk F9 E9 := PeF.cst0_ok awake9
noncomputable def TX77 : List (Nat × PeF) := (9, E9) :: TX76
theorem et77 : ∀ f, EOk (tabF T77 f) (tabE TX77 f) := tabE_cons ek9 et76
def g16 : List Gd := [[], [(.v 15, false)]]
noncomputable def E16 : PeF := S16.pe (tabE TX77) g16 false
theorem ek16 : EOk F16 E16 := Smry.pe_ok et77
noncomputable def TX78 : List (Nat × PeF) := (16, E16) :: TX77
theorem et78 : ∀ f, EOk (tabF T78 f) (tabE TX78 f) := tabE_cons ek16 et77
noncomputable def E7 : PeF := PeF.atO dec 4 2
theorem ek7 : EOk F7 E7 := PeF.atO_ok
noncomputable def TXC1 : List (Nat × PeF) := (7, E7) :: TX78
theorem etC1 : ∀ f, EOk (tabF TC1 f) (tabE TXC1 f) := tabE_cons ek7 et78
def g24 : List Gd := []
noncomputable def E24 : PeF := S24.pe (tabE TXC1) g24 false
theorem ek24 : EOk F24 E24 := Smry.pe_ok etC1
noncomputable def TXC2 : List (Nat × PeF) := (24, E24) :: TXC1
theorem etC2 : ∀ f, EOk (tabF TC2 f) (tabE TXC2 f) := tabE_cons ek24 etC1
def g12 : List Gd := []
noncomputable def E12 : PeF := S12.pe (tabE TXC2) g12 false
theorem ek12 : EOk F12 E12 := Smry.pe_ok etC2
noncomputable def TXC3 : List (Nat × PeF) := (12, E12) :: TXC2
theorem etC3 : ∀ f, EOk (tabF TC3 f) (tabE TXC3 f) := tabE_cons ek12 etC2
def g8 : List Gd := [[]]
def gl8 : List (LAnn × List Gd) := [(L100800, [[]])]
noncomputable def E8 : PeF := S8.pe (lpE gl8 12 (tabE TXC3)) g8 true
theorem ek8 : EOk F8 E8 := Smry.pe_ok (lpE_ok (l := gl8) etC3)
noncomputable def TXC5 : List (Nat × PeF) := (8, E8) :: TXC3
theorem etC5 : ∀ f, EOk (tabF TC5 f) (tabE TXC5 f) := tabE_cons ek8 etC3
def g10 : List Gd := []
noncomputable def E10 : PeF := S10.pe (tabE TXC5) g10 true
theorem ek10 : EOk F10 E10 := Smry.pe_ok etC5
noncomputable def TXC7 : List (Nat × PeF) := (10, E10) :: TXC5
theorem etC7 : ∀ f, EOk (tabF TC7 f) (tabE TXC7 f) := tabE_cons ek10 etC5
def g11 : List Gd := []
noncomputable def E11 : PeF := S11.pe (tabE TXC7) g11 false
theorem ek11 : EOk F11 E11 := Smry.pe_ok etC7
noncomputable def TXC8 : List (Nat × PeF) := (11, E11) :: TXC7
theorem etC8 : ∀ f, EOk (tabF TC8 f) (tabE TXC8 f) := tabE_cons ek11 etC7
def g3 : List Gd := [[], [], [(.v 26, true), (.v 27, false), (.v 28, true), (.v 29, true), (.v 30, true)], [(.v 36, true)], [(.v 12, true), (.v 36, false), (.v 45, true), (.v 46, true)], [(.v 12, true), (.v 36, false), (.v 46, false)], [(.v 26, false), (.v 27, true), (.v 28, false), (.v 34, false), (.v 35, false), (.v 47, true)]]
noncomputable def E3 : PeF := S3.pe (tabE TXC8) g3 true
theorem ek3 : EOk F3 E3 := Smry.pe_ok etC8
def g4 : List Gd := [[], [], [(.v 12, false), (.v 40, false), (.v 41, false), (.v 42, false), (.v 43, false), (.v 44, false), (.v 45, false), (.v 46, false), (.v 48, true), (.v 49, false), (.v 50, false), (.v 51, false), (.v 52, false), (.v 53, true)], [], [], [(.v 41, true), (.v 42, false), (.v 43, false), (.v 44, false), (.v 45, false), (.v 46, false), (.v 48, true), (.v 49, false), (.v 50, false), (.v 51, false), (.v 52, false), (.v 53, false), (.v 58, true), (.v 68, false), (.v 84, true), (.v 85, true), (.v 86, true), (.v 87, true), (.v 88, true), (.v 89, true), (.v 90, true), (.v 91, true), (.v 92, true), (.v 93, true), (.v 94, true), (.v 95, true), (.v 96, true), (.v 97, true), (.v 98, true)]]
def gl4 : List (LAnn × List Gd) := [(L100400, [[], []])]
noncomputable def E4 : PeF := S4.pe (lpE gl4 12 (tabE TXC3)) g4 true
theorem ek4 : EOk F4 E4 := Smry.pe_ok (lpE_ok (l := gl4) etC3)
end Go.Proofs.YtalnndmnnffnmaaGreat.Cr
/-! ## CrN -/
set_option linter.unusedVariables false
set_option linter.unusedSimpArgs false
namespace Go.Proofs.YtalnndmnnffnmaaGreat.Cr
open Go Go.Proofs Go.Proofs.YtalnndmnnffnmaaGreat.Sx

noncomputable def TN0 : List (Nat × PeF) := []
theorem nt0 : ∀ f, EOk (tabF T0 f) (tabE TN0 f) := tabE_nil
noncomputable def N25 : PeF := E25
theorem nk25 : EOk F25 N25 := ek25
noncomputable def TN1 : List (Nat × PeF) := (25, N25) :: TN0
theorem nt1 : ∀ f, EOk (tabF T1 f) (tabE TN1 f) := tabE_cons nk25 nt0
/-! seepage/alu.Check -/
noncomputable def N37 : PeF := S37.peN (tabE TN1) g37 false
theorem nk37 : EOk F37 N37 := Smry.peN_ok nt1
noncomputable def TN2 : List (Nat × PeF) := (37, N37) :: TN1
theorem nt2 : ∀ f, EOk (tabF T2 f) (tabE TN2 f) := tabE_cons nk37 nt1
/-! seepage/core.Check -/
noncomputable def N15 : PeF := S15.peN (tabE TN2) g15 false
theorem nk15 : EOk F15 N15 := Smry.peN_ok nt2
noncomputable def TN3 : List (Nat × PeF) := (15, N15) :: TN2
theorem nt3 : ∀ f, EOk (tabF T3 f) (tabE TN3 f) := tabE_cons nk15 nt2
/-! seepage/core.New -/
noncomputable def N23 : PeF := S23.peN (tabE TN3) g23 false
theorem nk23 : EOk F23 N23 := Smry.peN_ok nt3
noncomputable def TN4 : List (Nat × PeF) := (23, N23) :: TN3
theorem nt4 : ∀ f, EOk (tabF T4 f) (tabE TN4 f) := tabE_cons nk23 nt3
/-! seepage/label.Split -/
noncomputable def N57 : PeF := S57.peN (tabE TN4) g57 false
theorem nk57 : EOk F57 N57 := Smry.peN_ok nt4
noncomputable def TN5 : List (Nat × PeF) := (57, N57) :: TN4
theorem nt5 : ∀ f, EOk (tabF T5 f) (tabE TN5 f) := tabE_cons nk57 nt4
/-! (*seepage/core.work).push -/
noncomputable def N32 : PeF := S32.peN (tabE TN5) g32 false
theorem nk32 : EOk F32 N32 := Smry.peN_ok nt5
noncomputable def TN6 : List (Nat × PeF) := (32, N32) :: TN5
theorem nt6 : ∀ f, EOk (tabF T6 f) (tabE TN6 f) := tabE_cons nk32 nt5
/-! seepage/alu.Push -/
noncomputable def N58 : PeF := S58.peN (tabE TN6) g58 false
theorem nk58 : EOk F58 N58 := Smry.peN_ok nt6
noncomputable def TN7 : List (Nat × PeF) := (58, N58) :: TN6
theorem nt7 : ∀ f, EOk (tabF T7 f) (tabE TN7 f) := tabE_cons nk58 nt6
/-! (*seepage/core.work).pushed -/
noncomputable def N34 : PeF := S34.peN (tabE TN7) g34 false
theorem nk34 : EOk F34 N34 := Smry.peN_ok nt7
noncomputable def TN8 : List (Nat × PeF) := (34, N34) :: TN7
theorem nt8 : ∀ f, EOk (tabF T8 f) (tabE TN8 f) := tabE_cons nk34 nt7
/-! (*seepage/core.work).broken -/
noncomputable def N35 : PeF := S35.peN (tabE TN8) g35 true
theorem nk35 : EOk F35 N35 := Smry.peN_ok nt8
noncomputable def TN9 : List (Nat × PeF) := (35, N35) :: TN8
theorem nt9 : ∀ f, EOk (tabF T9 f) (tabE TN9 f) := tabE_cons nk35 nt8
/-! (*seepage/core.work).first -/
noncomputable def N59 : PeF := S59.peN (tabE TN9) g59 true
theorem nk59 : EOk F59 N59 := Smry.peN_ok nt9
noncomputable def TN10 : List (Nat × PeF) := (59, N59) :: TN9
theorem nt10 : ∀ f, EOk (tabF T10 f) (tabE TN10 f) := tabE_cons nk59 nt9
/-! seepage/label.And -/
noncomputable def N95 : PeF := S95.peN (tabE TN10) g95 false
theorem nk95 : EOk F95 N95 := Smry.peN_ok nt10
noncomputable def TN11 : List (Nat × PeF) := (95, N95) :: TN10
theorem nt11 : ∀ f, EOk (tabF T11 f) (tabE TN11 f) := tabE_cons nk95 nt10
/-! (*seepage/core.work).stored -/
noncomputable def N60 : PeF := S60.peN (tabE TN11) g60 true
theorem nk60 : EOk F60 N60 := Smry.peN_ok nt11
noncomputable def TN12 : List (Nat × PeF) := (60, N60) :: TN11
theorem nt12 : ∀ f, EOk (tabF T12 f) (tabE TN12 f) := tabE_cons nk60 nt11
/-! seepage/label.Bit -/
noncomputable def N107 : PeF := S107.peN (tabE TN12) g107 false
theorem nk107 : EOk F107 N107 := Smry.peN_ok nt12
noncomputable def TN13 : List (Nat × PeF) := (107, N107) :: TN12
theorem nt13 : ∀ f, EOk (tabF T13 f) (tabE TN13 f) := tabE_cons nk107 nt12
/-! seepage/alu.Set -/
noncomputable def N105 : PeF := PeF.non
theorem nk105 : EOk F105 N105 := PeF.non_ok
noncomputable def TN14 : List (Nat × PeF) := (105, N105) :: TN13
theorem nt14 : ∀ f, EOk (tabF T14 f) (tabE TN14 f) := tabE_cons nk105 nt13
/-! seepage/alu.NZ -/
noncomputable def N103 : PeF := PeF.non
theorem nk103 : EOk F103 N103 := PeF.non_ok
noncomputable def TN15 : List (Nat × PeF) := (103, N103) :: TN14
theorem nt15 : ∀ f, EOk (tabF T15 f) (tabE TN15 f) := tabE_cons nk103 nt14
/-! seepage/alu.shifted -/
noncomputable def N106 : PeF := PeF.non
theorem nk106 : EOk F106 N106 := PeF.non_ok
noncomputable def TN16 : List (Nat × PeF) := (106, N106) :: TN15
theorem nt16 : ∀ f, EOk (tabF T16 f) (tabE TN16 f) := tabE_cons nk106 nt15
/-! seepage/alu.Asl -/
noncomputable def N67 : PeF := PeF.non
theorem nk67 : EOk F67 N67 := PeF.non_ok
noncomputable def TN17 : List (Nat × PeF) := (67, N67) :: TN16
theorem nt17 : ∀ f, EOk (tabF T17 f) (tabE TN17 f) := tabE_cons nk67 nt16
/-! seepage/alu.Lsr -/
noncomputable def N68 : PeF := PeF.non
theorem nk68 : EOk F68 N68 := PeF.non_ok
noncomputable def TN18 : List (Nat × PeF) := (68, N68) :: TN17
theorem nt18 : ∀ f, EOk (tabF T18 f) (tabE TN18 f) := tabE_cons nk68 nt17
/-! seepage/alu.Get -/
noncomputable def N108 : PeF := S108.peN (tabE TN18) g108 false
theorem nk108 : EOk F108 N108 := Smry.peN_ok nt18
noncomputable def TN19 : List (Nat × PeF) := (108, N108) :: TN18
theorem nt19 : ∀ f, EOk (tabF T19 f) (tabE TN19 f) := tabE_cons nk108 nt18
/-! seepage/alu.Rol -/
noncomputable def N69 : PeF := PeF.non
theorem nk69 : EOk F69 N69 := PeF.non_ok
noncomputable def TN20 : List (Nat × PeF) := (69, N69) :: TN19
theorem nt20 : ∀ f, EOk (tabF T20 f) (tabE TN20 f) := tabE_cons nk69 nt19
/-! seepage/alu.Ror -/
noncomputable def N70 : PeF := PeF.non
theorem nk70 : EOk F70 N70 := PeF.non_ok
noncomputable def TN21 : List (Nat × PeF) := (70, N70) :: TN20
theorem nt21 : ∀ f, EOk (tabF T21 f) (tabE TN21 f) := tabE_cons nk70 nt20
/-! seepage/label.Or -/
noncomputable def N109 : PeF := S109.peN (tabE TN21) g109 false
theorem nk109 : EOk F109 N109 := Smry.peN_ok nt21
noncomputable def TN22 : List (Nat × PeF) := (109, N109) :: TN21
theorem nt22 : ∀ f, EOk (tabF T22 f) (tabE TN22 f) := tabE_cons nk109 nt21
/-! (*seepage/core.work).ora -/
noncomputable def N71 : PeF := S71.peN (tabE TN22) g71 false
theorem nk71 : EOk F71 N71 := Smry.peN_ok nt22
noncomputable def TN23 : List (Nat × PeF) := (71, N71) :: TN22
theorem nt23 : ∀ f, EOk (tabF T23 f) (tabE TN23 f) := tabE_cons nk71 nt22
/-! (*seepage/core.work).and -/
noncomputable def N72 : PeF := S72.peN (tabE TN23) g72 false
theorem nk72 : EOk F72 N72 := Smry.peN_ok nt23
noncomputable def TN24 : List (Nat × PeF) := (72, N72) :: TN23
theorem nt24 : ∀ f, EOk (tabF T24 f) (tabE TN24 f) := tabE_cons nk72 nt23
/-! seepage/label.Xor -/
noncomputable def N110 : PeF := S110.peN (tabE TN24) g110 false
theorem nk110 : EOk F110 N110 := Smry.peN_ok nt24
noncomputable def TN25 : List (Nat × PeF) := (110, N110) :: TN24
theorem nt25 : ∀ f, EOk (tabF T25 f) (tabE TN25 f) := tabE_cons nk110 nt24
/-! (*seepage/core.work).eor -/
noncomputable def N73 : PeF := S73.peN (tabE TN25) g73 false
theorem nk73 : EOk F73 N73 := Smry.peN_ok nt25
noncomputable def TN26 : List (Nat × PeF) := (73, N73) :: TN25
theorem nt26 : ∀ f, EOk (tabF T26 f) (tabE TN26 f) := tabE_cons nk73 nt25
/-! seepage/alu.Adc -/
noncomputable def N111 : PeF := PeF.non
theorem nk111 : EOk F111 N111 := PeF.non_ok
noncomputable def TN27 : List (Nat × PeF) := (111, N111) :: TN26
theorem nt27 : ∀ f, EOk (tabF T27 f) (tabE TN27 f) := tabE_cons nk111 nt26
/-! (*seepage/core.work).adc -/
noncomputable def N74 : PeF := S74.peN (tabE TN27) g74 false
theorem nk74 : EOk F74 N74 := Smry.peN_ok nt27
noncomputable def TN28 : List (Nat × PeF) := (74, N74) :: TN27
theorem nt28 : ∀ f, EOk (tabF T28 f) (tabE TN28 f) := tabE_cons nk74 nt27
/-! seepage/alu.Sbx -/
noncomputable def N116 : PeF := PeF.non
theorem nk116 : EOk F116 N116 := PeF.non_ok
noncomputable def TN29 : List (Nat × PeF) := (116, N116) :: TN28
theorem nt29 : ∀ f, EOk (tabF T29 f) (tabE TN29 f) := tabE_cons nk116 nt28
/-! seepage/alu.Cmp -/
noncomputable def N112 : PeF := PeF.non
theorem nk112 : EOk F112 N112 := PeF.non_ok
noncomputable def TN30 : List (Nat × PeF) := (112, N112) :: TN29
theorem nt30 : ∀ f, EOk (tabF T30 f) (tabE TN30 f) := tabE_cons nk112 nt29
/-! (*seepage/core.work).cmp -/
noncomputable def N75 : PeF := S75.peN (tabE TN30) g75 false
theorem nk75 : EOk F75 N75 := Smry.peN_ok nt30
noncomputable def TN31 : List (Nat × PeF) := (75, N75) :: TN30
theorem nt31 : ∀ f, EOk (tabF T31 f) (tabE TN31 f) := tabE_cons nk75 nt30
/-! seepage/alu.Sbc -/
noncomputable def N113 : PeF := PeF.non
theorem nk113 : EOk F113 N113 := PeF.non_ok
noncomputable def TN32 : List (Nat × PeF) := (113, N113) :: TN31
theorem nt32 : ∀ f, EOk (tabF T32 f) (tabE TN32 f) := tabE_cons nk113 nt31
/-! (*seepage/core.work).sbc -/
noncomputable def N76 : PeF := S76.peN (tabE TN32) g76 false
theorem nk76 : EOk F76 N76 := Smry.peN_ok nt32
noncomputable def TN33 : List (Nat × PeF) := (76, N76) :: TN32
theorem nt33 : ∀ f, EOk (tabF T33 f) (tabE TN33 f) := tabE_cons nk76 nt32
/-! (*seepage/core.work).turned -/
noncomputable def N50 : PeF := S50.peN (tabE TN33) g50 true
theorem nk50 : EOk F50 N50 := Smry.peN_ok nt33
noncomputable def TN34 : List (Nat × PeF) := (50, N50) :: TN33
theorem nt34 : ∀ f, EOk (tabF T34 f) (tabE TN34 f) := tabE_cons nk50 nt33
/-! (*seepage/core.work).worked -/
noncomputable def N36 : PeF := S36.peN (tabE TN34) g36 true
theorem nk36 : EOk F36 N36 := Smry.peN_ok nt34
noncomputable def TN35 : List (Nat × PeF) := (36, N36) :: TN34
theorem nt35 : ∀ f, EOk (tabF T35 f) (tabE TN35 f) := tabE_cons nk36 nt34
/-! seepage/core.Ask -/
noncomputable def N14 : PeF := S14.peN (tabE TN35) g14 true
theorem nk14 : EOk F14 N14 := Smry.peN_ok nt35
noncomputable def TN36 : List (Nat × PeF) := (14, N14) :: TN35
theorem nt36 : ∀ f, EOk (tabF T36 f) (tabE TN36 f) := tabE_cons nk14 nt35
/-! (*seepage/core.work).fetch -/
noncomputable def N26 : PeF := S26.peN (tabE TN36) g26 false
theorem nk26 : EOk F26 N26 := Smry.peN_ok nt36
noncomputable def TN37 : List (Nat × PeF) := (26, N26) :: TN36
theorem nt37 : ∀ f, EOk (tabF T37 f) (tabE TN37 f) := tabE_cons nk26 nt36
/-! (*seepage/core.work).flag -/
noncomputable def N66 : PeF := S66.peN (tabE TN37) g66 false
theorem nk66 : EOk F66 N66 := Smry.peN_ok nt37
noncomputable def TN38 : List (Nat × PeF) := (66, N66) :: TN37
theorem nt38 : ∀ f, EOk (tabF T38 f) (tabE TN38 f) := tabE_cons nk66 nt37
/-! (*seepage/core.work).without -/
noncomputable def N49 : PeF := S49.peN (tabE TN38) g49 false
theorem nk49 : EOk F49 N49 := Smry.peN_ok nt38
noncomputable def TN39 : List (Nat × PeF) := (49, N49) :: TN38
theorem nt39 : ∀ f, EOk (tabF T39 f) (tabE TN39 f) := tabE_cons nk49 nt38
/-! (*seepage/core.work).cpx -/
noncomputable def N77 : PeF := S77.peN (tabE TN39) g77 false
theorem nk77 : EOk F77 N77 := Smry.peN_ok nt39
noncomputable def TN40 : List (Nat × PeF) := (77, N77) :: TN39
theorem nt40 : ∀ f, EOk (tabF T40 f) (tabE TN40 f) := tabE_cons nk77 nt39
/-! (*seepage/core.work).cpy -/
noncomputable def N78 : PeF := S78.peN (tabE TN40) g78 false
theorem nk78 : EOk F78 N78 := Smry.peN_ok nt40
noncomputable def TN41 : List (Nat × PeF) := (78, N78) :: TN40
theorem nt41 : ∀ f, EOk (tabF T41 f) (tabE TN41 f) := tabE_cons nk78 nt40
/-! seepage/alu.Bit -/
noncomputable def N114 : PeF := PeF.non
theorem nk114 : EOk F114 N114 := PeF.non_ok
noncomputable def TN42 : List (Nat × PeF) := (114, N114) :: TN41
theorem nt42 : ∀ f, EOk (tabF T42 f) (tabE TN42 f) := tabE_cons nk114 nt41
/-! (*seepage/core.work).bit -/
noncomputable def N79 : PeF := S79.peN (tabE TN42) g79 false
theorem nk79 : EOk F79 N79 := Smry.peN_ok nt42
noncomputable def TN43 : List (Nat × PeF) := (79, N79) :: TN42
theorem nt43 : ∀ f, EOk (tabF T43 f) (tabE TN43 f) := tabE_cons nk79 nt42
/-! (*seepage/core.work).lda -/
noncomputable def N80 : PeF := S80.peN (tabE TN43) g80 false
theorem nk80 : EOk F80 N80 := Smry.peN_ok nt43
noncomputable def TN44 : List (Nat × PeF) := (80, N80) :: TN43
theorem nt44 : ∀ f, EOk (tabF T44 f) (tabE TN44 f) := tabE_cons nk80 nt43
/-! (*seepage/core.work).ldx -/
noncomputable def N81 : PeF := S81.peN (tabE TN44) g81 false
theorem nk81 : EOk F81 N81 := Smry.peN_ok nt44
noncomputable def TN45 : List (Nat × PeF) := (81, N81) :: TN44
theorem nt45 : ∀ f, EOk (tabF T45 f) (tabE TN45 f) := tabE_cons nk81 nt44
/-! (*seepage/core.work).ldy -/
noncomputable def N82 : PeF := S82.peN (tabE TN45) g82 false
theorem nk82 : EOk F82 N82 := Smry.peN_ok nt45
noncomputable def TN46 : List (Nat × PeF) := (82, N82) :: TN45
theorem nt46 : ∀ f, EOk (tabF T46 f) (tabE TN46 f) := tabE_cons nk82 nt45
/-! (*seepage/core.work).lax -/
noncomputable def N83 : PeF := S83.peN (tabE TN46) g83 false
theorem nk83 : EOk F83 N83 := Smry.peN_ok nt46
noncomputable def TN47 : List (Nat × PeF) := (83, N83) :: TN46
theorem nt47 : ∀ f, EOk (tabF T47 f) (tabE TN47 f) := tabE_cons nk83 nt46
/-! (*seepage/core.work).las -/
noncomputable def N84 : PeF := S84.peN (tabE TN47) g84 false
theorem nk84 : EOk F84 N84 := Smry.peN_ok nt47
noncomputable def TN48 : List (Nat × PeF) := (84, N84) :: TN47
theorem nt48 : ∀ f, EOk (tabF T48 f) (tabE TN48 f) := tabE_cons nk84 nt47
/-! (*seepage/core.work).anc -/
noncomputable def N85 : PeF := S85.peN (tabE TN48) g85 false
theorem nk85 : EOk F85 N85 := Smry.peN_ok nt48
noncomputable def TN49 : List (Nat × PeF) := (85, N85) :: TN48
theorem nt49 : ∀ f, EOk (tabF T49 f) (tabE TN49 f) := tabE_cons nk85 nt48
/-! (*seepage/core.work).alr -/
noncomputable def N86 : PeF := S86.peN (tabE TN49) g86 false
theorem nk86 : EOk F86 N86 := Smry.peN_ok nt49
noncomputable def TN50 : List (Nat × PeF) := (86, N86) :: TN49
theorem nt50 : ∀ f, EOk (tabF T50 f) (tabE TN50 f) := tabE_cons nk86 nt49
/-! seepage/alu.Arr -/
noncomputable def N115 : PeF := PeF.non
theorem nk115 : EOk F115 N115 := PeF.non_ok
noncomputable def TN51 : List (Nat × PeF) := (115, N115) :: TN50
theorem nt51 : ∀ f, EOk (tabF T51 f) (tabE TN51 f) := tabE_cons nk115 nt50
/-! (*seepage/core.work).arr -/
noncomputable def N87 : PeF := S87.peN (tabE TN51) g87 false
theorem nk87 : EOk F87 N87 := Smry.peN_ok nt51
noncomputable def TN52 : List (Nat × PeF) := (87, N87) :: TN51
theorem nt52 : ∀ f, EOk (tabF T52 f) (tabE TN52 f) := tabE_cons nk87 nt51
/-! (*seepage/core.work).sbx -/
noncomputable def N88 : PeF := S88.peN (tabE TN52) g88 false
theorem nk88 : EOk F88 N88 := Smry.peN_ok nt52
noncomputable def TN53 : List (Nat × PeF) := (88, N88) :: TN52
theorem nt53 : ∀ f, EOk (tabF T53 f) (tabE TN53 f) := tabE_cons nk88 nt52
/-! (*seepage/core.work).ane -/
noncomputable def N89 : PeF := S89.peN (tabE TN53) g89 false
theorem nk89 : EOk F89 N89 := Smry.peN_ok nt53
noncomputable def TN54 : List (Nat × PeF) := (89, N89) :: TN53
theorem nt54 : ∀ f, EOk (tabF T54 f) (tabE TN54 f) := tabE_cons nk89 nt53
/-! (*seepage/core.work).lxa -/
noncomputable def N90 : PeF := S90.peN (tabE TN54) g90 false
theorem nk90 : EOk F90 N90 := Smry.peN_ok nt54
noncomputable def TN55 : List (Nat × PeF) := (90, N90) :: TN54
theorem nt55 : ∀ f, EOk (tabF T55 f) (tabE TN55 f) := tabE_cons nk90 nt54
/-! (*seepage/core.work).with -/
noncomputable def N51 : PeF := S51.peN (tabE TN55) g51 true
theorem nk51 : EOk F51 N51 := Smry.peN_ok nt55
noncomputable def TN56 : List (Nat × PeF) := (51, N51) :: TN55
theorem nt56 : ∀ f, EOk (tabF T56 f) (tabE TN56 f) := tabE_cons nk51 nt55
/-! (*seepage/core.work).taken -/
noncomputable def N91 : PeF := S91.peN (tabE TN56) g91 true
theorem nk91 : EOk F91 N91 := Smry.peN_ok nt56
noncomputable def TN57 : List (Nat × PeF) := (91, N91) :: TN56
theorem nt57 : ∀ f, EOk (tabF T57 f) (tabE TN57 f) := tabE_cons nk91 nt56
/-! (*seepage/core.work).branch -/
noncomputable def N52 : PeF := S52.peN (tabE TN57) g52 true
theorem nk52 : EOk F52 N52 := Smry.peN_ok nt57
noncomputable def TN58 : List (Nat × PeF) := (52, N52) :: TN57
theorem nt58 : ∀ f, EOk (tabF T58 f) (tabE TN58 f) := tabE_cons nk52 nt57
/-! seepage/alu.Pull -/
noncomputable def N93 : PeF := S93.peN (tabE TN58) g93 false
theorem nk93 : EOk F93 N93 := Smry.peN_ok nt58
noncomputable def TN59 : List (Nat × PeF) := (93, N93) :: TN58
theorem nt59 : ∀ f, EOk (tabF T59 f) (tabE TN59 f) := tabE_cons nk93 nt58
/-! (*seepage/core.work).pulls -/
noncomputable def N53 : PeF := S53.peN (tabE TN59) g53 false
theorem nk53 : EOk F53 N53 := Smry.peN_ok nt59
noncomputable def TN60 : List (Nat × PeF) := (53, N53) :: TN59
theorem nt60 : ∀ f, EOk (tabF T60 f) (tabE TN60 f) := tabE_cons nk53 nt59
/-! (*seepage/core.work).memory -/
noncomputable def N54 : PeF := S54.peN (tabE TN60) g54 false
theorem nk54 : EOk F54 N54 := Smry.peN_ok nt60
noncomputable def TN61 : List (Nat × PeF) := (54, N54) :: TN60
theorem nt61 : ∀ f, EOk (tabF T61 f) (tabE TN61 f) := tabE_cons nk54 nt60
/-! seepage/label.Word -/
noncomputable def N121 : PeF := S121.peN (tabE TN61) g121 false
theorem nk121 : EOk F121 N121 := Smry.peN_ok nt61
noncomputable def TN62 : List (Nat × PeF) := (121, N121) :: TN61
theorem nt62 : ∀ f, EOk (tabF T62 f) (tabE TN62 f) := tabE_cons nk121 nt61
/-! (*seepage/core.work).aim -/
noncomputable def N117 : PeF := S117.peN (tabE TN62) g117 false
theorem nk117 : EOk F117 N117 := Smry.peN_ok nt62
noncomputable def TN63 : List (Nat × PeF) := (117, N117) :: TN62
theorem nt63 : ∀ f, EOk (tabF T63 f) (tabE TN63 f) := tabE_cons nk117 nt62
/-! (*seepage/core.work).wide -/
noncomputable def N118 : PeF := S118.peN (tabE TN63) g118 false
theorem nk118 : EOk F118 N118 := Smry.peN_ok nt63
noncomputable def TN64 : List (Nat × PeF) := (118, N118) :: TN63
theorem nt64 : ∀ f, EOk (tabF T64 f) (tabE TN64 f) := tabE_cons nk118 nt63
/-! (*seepage/core.work).page -/
noncomputable def N119 : PeF := S119.peN (tabE TN64) g119 false
theorem nk119 : EOk F119 N119 := Smry.peN_ok nt64
noncomputable def TN65 : List (Nat × PeF) := (119, N119) :: TN64
theorem nt65 : ∀ f, EOk (tabF T65 f) (tabE TN65 f) := tabE_cons nk119 nt64
/-! (*seepage/core.work).address -/
noncomputable def N94 : PeF := S94.peN (tabE TN65) g94 false
theorem nk94 : EOk F94 N94 := Smry.peN_ok nt65
noncomputable def TN66 : List (Nat × PeF) := (94, N94) :: TN65
theorem nt66 : ∀ f, EOk (tabF T66 f) (tabE TN66 f) := tabE_cons nk94 nt65
/-! (*seepage/core.work).works -/
noncomputable def N55 : PeF := S55.peN (tabE TN66) g55 true
theorem nk55 : EOk F55 N55 := Smry.peN_ok nt66
noncomputable def TN67 : List (Nat × PeF) := (55, N55) :: TN66
theorem nt67 : ∀ f, EOk (tabF T67 f) (tabE TN67 f) := tabE_cons nk55 nt66
/-! (*seepage/core.work).far -/
noncomputable def N96 : PeF := S96.peN (tabE TN67) g96 false
theorem nk96 : EOk F96 N96 := Smry.peN_ok nt67
noncomputable def TN68 : List (Nat × PeF) := (96, N96) :: TN67
theorem nt68 : ∀ f, EOk (tabF T68 f) (tabE TN68 f) := tabE_cons nk96 nt67
/-! (*seepage/core.work).jump -/
noncomputable def N97 : PeF := S97.peN (tabE TN68) g97 false
theorem nk97 : EOk F97 N97 := Smry.peN_ok nt68
noncomputable def TN69 : List (Nat × PeF) := (97, N97) :: TN68
theorem nt69 : ∀ f, EOk (tabF T69 f) (tabE TN69 f) := tabE_cons nk97 nt68
/-! (*seepage/core.work).call -/
noncomputable def N98 : PeF := S98.peN (tabE TN69) g98 false
theorem nk98 : EOk F98 N98 := Smry.peN_ok nt69
noncomputable def TN70 : List (Nat × PeF) := (98, N98) :: TN69
theorem nt70 : ∀ f, EOk (tabF T70 f) (tabE TN70 f) := tabE_cons nk98 nt69
/-! (*seepage/core.work).back -/
noncomputable def N99 : PeF := S99.peN (tabE TN70) g99 false
theorem nk99 : EOk F99 N99 := Smry.peN_ok nt70
noncomputable def TN71 : List (Nat × PeF) := (99, N99) :: TN70
theorem nt71 : ∀ f, EOk (tabF T71 f) (tabE TN71 f) := tabE_cons nk99 nt70
/-! (*seepage/core.work).interrupt -/
noncomputable def N100 : PeF := S100.peN (tabE TN71) g100 false
theorem nk100 : EOk F100 N100 := Smry.peN_ok nt71
noncomputable def TN72 : List (Nat × PeF) := (100, N100) :: TN71
theorem nt72 : ∀ f, EOk (tabF T72 f) (tabE TN72 f) := tabE_cons nk100 nt71
/-! (*seepage/core.work).control -/
noncomputable def N56 : PeF := S56.peN (tabE TN72) g56 false
theorem nk56 : EOk F56 N56 := Smry.peN_ok nt72
noncomputable def TN73 : List (Nat × PeF) := (56, N56) :: TN72
theorem nt73 : ∀ f, EOk (tabF T73 f) (tabE TN73 f) := tabE_cons nk56 nt72
/-! (*seepage/core.work).goes -/
noncomputable def N27 : PeF := S27.peN (tabE TN73) g27 true
theorem nk27 : EOk F27 N27 := Smry.peN_ok nt73
noncomputable def TN74 : List (Nat × PeF) := (27, N27) :: TN73
theorem nt74 : ∀ f, EOk (tabF T74 f) (tabE TN74 f) := tabE_cons nk27 nt73
/-! (*seepage/core.work).lines -/
noncomputable def N28 : PeF := S28.peN (tabE TN74) g28 false
theorem nk28 : EOk F28 N28 := Smry.peN_ok nt74
noncomputable def TN75 : List (Nat × PeF) := (28, N28) :: TN74
theorem nt75 : ∀ f, EOk (tabF T75 f) (tabE TN75 f) := tabE_cons nk28 nt74
noncomputable def N13x : PeF := S13.peN (tabE TN75) g13 true
theorem nk13x : EOk F13 N13x := Smry.peN_ok nt75
/-- Which ones an octet may be. -/
def opsOf (c : Pc) : A → List Int
  | .c k => [k]
  | .v n => match ocOf n c.oc with
    | some O => O
    | none => [-1]
def octA (c : Pc) (x : A) : Bool := (match x with
  | .v n => mkMem n 255 c.ms
  | .c _ => false) || (opsOf c x).all oct
theorem opsOf_ok {ρ : Env} {c : Pc} (hs : StOk ρ c) {x : A} {v : Int} (hx : WA ρ c x v) {q : Int → Bool} (hq : q (-1) = false) (h : (opsOf c x).all q = true) : q v = true := by
  cases x with
  | c k =>
    obtain rfl := hx.inv
    simpa [opsOf] using h
  | v n =>
    simp only [opsOf] at h
    split at h
    · rename_i O hO
      have h1 : ρ.i n = v := hx ρ Agree.refl
      exact List.all_eq_true.1 h _ (h1 ▸ (hs ρ Agree.refl).2.2.2.2 _ (ocOf_ok hO))
    · simp [hq] at h
theorem octA_ok {ρ : Env} {c : Pc} (hs : StOk ρ c) {x : A} {v : Int} (hx : WA ρ c x v) (h : octA c x = true) : 0 ≤ v ∧ v ≤ 255 := by
  unfold octA at h
  rw [Bool.or_eq_true] at h
  rcases h with h | h
  · cases x with
    | c k => cases h
    | v n =>
      have h1 : ρ.i n = v := hx ρ Agree.refl
      have h2 := (hs ρ Agree.refl).2.2.2.1 _ (mkMem_ok h)
      simp only [h1] at h2
      exact of_and255 h2
  · have := opsOf_ok hs hx (q := oct) rfl h
    unfold oct at this
    simp only [Bool.and_eq_true, decide_eq_true_eq] at this
    omega
def mskA (c : Pc) : A → Bool
  | .v n => c.msk n 207
  | .c k => decide (arI .and .u8 k 207 = k)
theorem mskA_ok {ρ : Env} {c : Pc} (hs : StOk ρ c) {x : A} {v : Int} (hx : WA ρ c x v) (h : mskA c x = true) : arI .and .u8 v 207 = v := by
  cases x with
  | c k =>
    obtain rfl := hx.inv
    simpa [mskA] using h
  | v n =>
    have h1 : ρ.i n = v := hx ρ Agree.refl
    rw [← h1]; exact Pc.msk_ok hs h Agree.refl
def q13 (ai : List (Option A)) (ab : List (Option B)) (c : Pc) : Bool := Nat.beq ab.length 16 && match ai with
  | [_, _, _, _, some p, some s, _, some o, some (.c t), _, _, some (.c intr), some (.c pend), some v] =>
    mskA c p && mskA c s && (opsOf c o).all (fun op => oct op && tmay op t) && (decide (0 ≤ intr) && decide (intr ≤ 3)) && (decide (0 ≤ pend) && decide (pend ≤ 2)) && octA c v
  | _ => false
theorem len16 {α : Type} {l : List α} (h : l.length = 16) : ∃ a0 a1 a2 a3 a4 a5 a6 a7 a8 a9 a10 a11 a12 a13 a14 a15, l = [a0, a1, a2, a3, a4, a5, a6, a7, a8, a9, a10, a11, a12, a13, a14, a15] := by
  match l, h with
  | [a0, a1, a2, a3, a4, a5, a6, a7, a8, a9, a10, a11, a12, a13, a14, a15], _ => exact ⟨a0, a1, a2, a3, a4, a5, a6, a7, a8, a9, a10, a11, a12, a13, a14, a15, rfl⟩
theorem len14 {α : Type} {l : List α} (h : l.length = 14) : ∃ a0 a1 a2 a3 a4 a5 a6 a7 a8 a9 a10 a11 a12 a13, l = [a0, a1, a2, a3, a4, a5, a6, a7, a8, a9, a10, a11, a12, a13] := by
  match l, h with
  | [a0, a1, a2, a3, a4, a5, a6, a7, a8, a9, a10, a11, a12, a13], _ => exact ⟨a0, a1, a2, a3, a4, a5, a6, a7, a8, a9, a10, a11, a12, a13, rfl⟩
theorem q13_ok (is : List Int) (bs : List Bool) (ai : List (Option A)) (ab : List (Option B)) (ρ : Env) (c : Pc) (hs : StOk ρ c) (h1 : ai.length = is.length) (h2 : ab.length = bs.length) (hi : WR ρ c ai is) (hb : WRB ρ c ab bs) (h : q13 ai ab c = true) : (F13 is bs).2.getD 0 false = true := by
  unfold q13 at h
  rw [Bool.and_eq_true] at h
  obtain ⟨hl, h⟩ := h
  rw [Nat.beq_eq] at hl
  split at h
  · rename_i p s _ o t _ _ intr pend v
    obtain ⟨b0, b1, b2, b3, b4, b5, b6, b7, b8, b9, b10, b11, c0, c1, c2, c3, rfl⟩ := len16 (h2.symm.trans hl)
    obtain ⟨i0, i1, i2, i3, i4, i5, i6, i7, i8, i9, i10, i11, i12, w, rfl⟩ := len14 h1.symm
    simp only [Bool.and_eq_true, decide_eq_true_eq] at h
    obtain ⟨⟨⟨⟨⟨hp, hsm⟩, ho⟩, hin⟩, hpe⟩, hv⟩ := h
    have a7 : WA ρ c o i7 := hi 7 _ rfl
    have a8 : i8 = t := (hi 8 _ rfl).inv
    have a11 : i11 = intr := (hi 11 _ rfl).inv
    have a12 : i12 = pend := (hi 12 _ rfl).inv
    have av : WA ρ c v w := hi 13 _ rfl
    subst a8; subst a11; subst a12
    have hv := octA_ok hs av hv
    have ho := opsOf_ok hs a7 (q := fun op => oct op && tmay op i8) rfl ho
    rw [Bool.and_eq_true] at ho
    have ho1 := ho.1
    unfold oct at ho1
    simp only [Bool.and_eq_true, decide_eq_true_eq] at ho1
    have h4 : arI .and .u8 i4 207 = i4 := mskA_ok hs (hi 4 _ rfl) hp
    have h5 : arI .and .u8 i5 207 = i5 := mskA_ok hs (hi 5 _ rfl) hsm
    refine (take_ok i0 i1 i2 i3 i4 i5 i6 i7 i8 i9 i10 i11 i12 w b0 b1 b2 b3 b4 b5 b6 b7 b8 b9 b10 b11 c0 c1 c2 c3 ho1.1 (by omega) hv.1 hv.2 ?_ _ rfl).1
    unfold may
    simp only [Bool.and_eq_true, decide_eq_true_eq]
    exact ⟨⟨⟨⟨ho.2, hin⟩, hpe⟩, h4⟩, h5⟩
  · cases h
noncomputable def N13 : PeF := PeF.hd q13 N13x
theorem nk13 : EOk F13 N13 := PeF.hd_ok nk13x q13_ok
noncomputable def TN76 : List (Nat × PeF) := (13, N13) :: TN75
theorem nt76 : ∀ f, EOk (tabF T76 f) (tabE TN76 f) := tabE_cons nk13 nt75
noncomputable def TN77 : List (Nat × PeF) := (9, E9) :: TN76
theorem nt77 : ∀ f, EOk (tabF T77 f) (tabE TN77 f) := tabE_cons ek9 nt76
noncomputable def TN78 : List (Nat × PeF) := (16, PeF.non) :: TN77
theorem nt78 : ∀ f, EOk (tabF T78 f) (tabE TN78 f) := tabE_cons PeF.non_ok nt77
noncomputable def TNC1 : List (Nat × PeF) := (7, E7) :: TN78
theorem ntC1 : ∀ f, EOk (tabF TC1 f) (tabE TNC1 f) := tabE_cons ek7 nt78
noncomputable def N24 : PeF := S24.pe (tabE TNC1) g24 false
theorem nk24 : EOk F24 N24 := Smry.pe_ok ntC1
noncomputable def TNC2 : List (Nat × PeF) := (24, N24) :: TNC1
theorem ntC2 : ∀ f, EOk (tabF TC2 f) (tabE TNC2 f) := tabE_cons nk24 ntC1
noncomputable def N12 : PeF := S12.pe (tabE TNC2) g12 false
theorem nk12 : EOk F12 N12 := Smry.pe_ok ntC2
noncomputable def TNC3 : List (Nat × PeF) := (12, N12) :: TNC2
theorem ntC3 : ∀ f, EOk (tabF TC3 f) (tabE TNC3 f) := tabE_cons nk12 ntC2
noncomputable def N8 : PeF := S8.pe (lpE gl8 12 (tabE TNC3)) g8 true
theorem nk8 : EOk F8 N8 := Smry.pe_ok (lpE_ok (l := gl8) ntC3)
noncomputable def TNC5 : List (Nat × PeF) := (8, N8) :: TNC3
theorem ntC5 : ∀ f, EOk (tabF TC5 f) (tabE TNC5 f) := tabE_cons nk8 ntC3
noncomputable def N10 : PeF := S10.pe (tabE TNC5) g10 true
theorem nk10 : EOk F10 N10 := Smry.pe_ok ntC5
noncomputable def TNC7 : List (Nat × PeF) := (10, N10) :: TNC5
theorem ntC7 : ∀ f, EOk (tabF TC7 f) (tabE TNC7 f) := tabE_cons nk10 ntC5
noncomputable def N11 : PeF := S11.pe (tabE TNC7) g11 false
theorem nk11 : EOk F11 N11 := Smry.pe_ok ntC7
noncomputable def TNC8 : List (Nat × PeF) := (11, N11) :: TNC7
theorem ntC8 : ∀ f, EOk (tabF TC8 f) (tabE TNC8 f) := tabE_cons nk11 ntC7
noncomputable def N3 : PeF := S3.pe (tabE TNC8) g3 true
theorem nk3 : EOk F3 N3 := Smry.pe_ok ntC8
end Go.Proofs.YtalnndmnnffnmaaGreat.Cr
/-! ## CrCt -/
set_option linter.unusedVariables false
set_option linter.unusedSimpArgs false
namespace Go.Proofs.YtalnndmnnffnmaaGreat.Cr
open Go Go.Proofs Go.Proofs.YtalnndmnnffnmaaGreat.Sx

def sumE (n : Nat) : Ex := .cm .gtr (.ar .add .u16 (.cv .u16 (.iv 14)) (.cv .u16 (.iv n))) (.ik 255)
def carE (n : Nat) : Ex := .ar .quo .i64 (.ar .add .i64 (.cv .i64 (.iv 14)) (.cv .i64 (.iv n))) (.ik 256)
def tmX (n : Nat) (k : Int) (b : Bool) : List (Ex × Bool) × Ex := ([(sumE n, b)], .cm .eql (.ik (if b then k + 1 else k)) (.ar .add .i64 (.ik k) (carE n)))
def bpE (bit : Int) : Ex := .cm .gtr (.ar .and .u8 (.iv 18) (.ik bit)) (.ik 0)
def blE (bit : Int) : Ex := .cm .gtr (.ar .and .u8 (.iv 4) (.ik bit)) (.ik 0)
def pc2 : Ex := .ar .add .u16 (.ar .add .u16 (.iv 6) (.ik 1)) (.ik 1)
def smE : Ex := .cm .eql (.ar .shr .u16 (.ar .add .u16 pc2 (.cv .u16 (.cv .i16 (.cv .i8 (.iv 14))))) (.ik 8)) (.ar .shr .u16 pc2 (.ik 8))
def bh : Ex := .ar .add .u16 (.iv 6) (.ik 2)
def crE : Ex := .cm .neq (.ar .quo .u16 (.ite (.cm .gtr (.iv 14) (.ik 127)) (.ar .sub .u16 (.ar .add .u16 bh (.cv .u16 (.iv 14))) (.ik 256)) (.ar .add .u16 bh (.cv .u16 (.iv 14)))) (.ik 256)) (.ar .quo .u16 bh (.ik 256))
def gE (bit : Int) (s : Bool) : Ex := if s then blE bit else .eqb (blE bit) (.bk false)
def exN (n : Int) (bit : Int) (s : Bool) : Ex := .cm .eql (.ik n) (.ar .add .i64 (.ik 2) (.ite (.and (gE bit s) crE) (.ik 2) (.ite (gE bit s) (.ik 1) (.ik 0))))
def tmB (bit : Int) (s : Bool) : Nat → List (Ex × Bool) × Ex
  | 2 => ([(bpE bit, !s)], exN 2 bit s)
  | 3 => ([(smE, true), (bpE bit, s)], exN 3 bit s)
  | _ => ([(smE, false), (bpE bit, s)], exN 4 bit s)
structure Rng (ρ : Env) : Prop where
  v : 0 ≤ ρ.i 14 ∧ ρ.i 14 ≤ 255
  x : 0 ≤ ρ.i 1 ∧ ρ.i 1 ≤ 255
  y : 0 ≤ ρ.i 2 ∧ ρ.i 2 ≤ 255
  pc : 0 ≤ ρ.i 6 ∧ ρ.i 6 ≤ 65535
  p : 0 ≤ ρ.i 4 ∧ ρ.i 4 ≤ 255
  q : ρ.i 18 = arI .add .u8 (arI .rem .u8 (ρ.i 4) 16) (arI .mul .u8 (arI .quo .u8 (ρ.i 4) 64) 64)
def TmOk (t : List (Ex × Bool) × Ex) : Prop := ∀ ρ, Rng ρ → (∀ p, p ∈ t.1 → (p.1.d ρ).2 = p.2) → (t.2.d ρ).2 = true
theorem w16in {n : Int} (h : 0 ≤ n) (h' : n ≤ 65535) : IntKind.wrap .u16 n = n := by rw [wrap_u16]; omega
theorem tmX_ok {n : Nat} (hn : n = 1 ∨ n = 2) {k : Int} (hk : 0 ≤ k ∧ k ≤ 10) (b : Bool) : TmOk (tmX n k b) := by
  intro ρ h hf
  have hx : 0 ≤ ρ.i n ∧ ρ.i n ≤ 255 := by
    rcases hn with rfl | rfl
    · exact h.x
    · exact h.y
  have hv := h.v
  have h1 := hf _ List.mem_cons_self
  simp only [tmX, sumE, carE, Ex.d, cm_gtr, cm_eql] at h1 ⊢
  generalize ρ.i n = X at *
  generalize ρ.i 14 = V at *
  rw [w16in (n := V) (by omega) (by omega), w16in (n := X) (by omega) (by omega), add16] at h1
  rw [wrap_i64_in (n := V) (by omega) (by omega), wrap_i64_in (n := X) (by omega) (by omega)]
  have e0 : arI .add .i64 V X = V + X := by rw [add64, wrap_i64_in (by omega) (by omega)]
  have e : arI .quo .i64 (V + X) 256 = (V + X) / 256 := by
    show IntKind.wrap .i64 ((V + X).tdiv 256) = _
    rw [Int.tdiv_eq_ediv_of_nonneg (by omega), wrap_i64_in (by omega) (by omega)]
  rw [e0, e, add64, wrap_i64_in (by omega) (by omega)]
  rw [beq_iff_eq]
  cases b
  · simp only [decide_eq_false_iff_not, Bool.false_eq_true, if_false] at h1 ⊢
    omega
  · simp only [decide_eq_true_eq, if_true] at h1 ⊢
    omega
def bitB (p b : Nat) : Bool := decide (arI .and .u8 (arI .add .u8 (arI .rem .u8 (p : Int) 16) (arI .mul .u8 (arI .quo .u8 (p : Int) 64) 64)) (b : Int) = arI .and .u8 (p : Int) (b : Int))
theorem bits_ok {b : Nat} (hb : b = 128 ∨ b = 64 ∨ b = 2 ∨ b = 1) {p : Int} (h0 : 0 ≤ p) (h1 : p ≤ 255) : arI .and .u8 (arI .add .u8 (arI .rem .u8 p 16) (arI .mul .u8 (arI .quo .u8 p 64) 64)) (b : Int) = arI .and .u8 p (b : Int) := by
  have h2 : ∀ b, b = 128 ∨ b = 64 ∨ b = 2 ∨ b = 1 → allR (fun p => bitB p b) 8 0 = true := by
    rintro b (rfl | rfl | rfl | rfl)
    · kernel_rfl
    · kernel_rfl
    · kernel_rfl
    · kernel_rfl
  have h3 := allR_spec (h2 b hb) p.toNat (Nat.zero_le _) (by omega)
  have h4 := of_decide_eq_true h3
  rw [show ((p.toNat : Nat) : Int) = p by omega] at h4
  exact h4
theorem wrap_i8v {v : Int} (h0 : 0 ≤ v) (h1 : v ≤ 255) : IntKind.wrap .u16 (IntKind.wrap .i16 (IntKind.wrap .i8 v)) = if v > 127 then v + 65280 else v := by
  have h2 : allR (fun n => decide (IntKind.wrap .u16 (IntKind.wrap .i16 (IntKind.wrap .i8 (n : Int))) = if (n : Int) > 127 then (n : Int) + 65280 else (n : Int))) 8 0 = true := by kernel_rfl
  have h3 := of_decide_eq_true (allR_spec h2 v.toNat (Nat.zero_le _) (by omega))
  rw [show ((v.toNat : Nat) : Int) = v by omega] at h3
  exact h3
/-- Whether a branch leads to another page, said in two ways. -/
theorem sm_cr {ρ : Env} (h : Rng ρ) : (crE.d ρ).2 = !(smE.d ρ).2 := by
  have hv := h.v
  have hp := h.pc
  simp only [crE, smE, bh, pc2, Ex.d, cm_gtr, cm_eql, cm_neq]
  rw [wrap_i8v hv.1 hv.2, w16in (n := ρ.i 14) (by omega) (by omega)]
  simp only [add16, sub16]
  have q (x : Int) (hx : 0 ≤ x) (hx' : x ≤ 65535) : arI .quo .u16 x 256 = x / 256 := by
    show IntKind.wrap .u16 (x.tdiv 256) = _
    rw [Int.tdiv_eq_ediv_of_nonneg hx, wrap_u16]; omega
  have s (x : Int) : arI .shr .u16 x 8 = x / 256 := shr16_8 x
  rw [s, s, q _ (by omega) (by omega)]
  by_cases h1 : 127 < ρ.i 14
  · simp only [gt_iff_lt, h1, decide_true, if_true]
    rw [q _ (by omega) (by omega)]
    rw [Bool.eq_iff_iff]
    simp only [bne_iff_ne, ne_eq, Bool.not_eq_true', beq_eq_false_iff_ne]
    omega
  · simp only [gt_iff_lt, h1, decide_false, Bool.false_eq_true, if_false]
    rw [q _ (by omega) (by omega)]
    rw [Bool.eq_iff_iff]
    simp only [bne_iff_ne, ne_eq, Bool.not_eq_true', beq_eq_false_iff_ne]
    omega
theorem bp_bl {ρ : Env} (h : Rng ρ) {b : Nat} (hb : b = 128 ∨ b = 64 ∨ b = 2 ∨ b = 1) : ((bpE b).d ρ).2 = ((blE b).d ρ).2 := by
  simp only [bpE, blE, Ex.d]
  rw [h.q, bits_ok hb h.p.1 h.p.2]
theorem tmB_ok {b : Nat} (hb : b = 128 ∨ b = 64 ∨ b = 2 ∨ b = 1) (s : Bool) (n : Nat) (hn : n = 2 ∨ n = 3 ∨ n = 4) : TmOk (tmB b s n) := by
  intro ρ h hf
  have hg : ((gE b s).d ρ).2 = (((blE b).d ρ).2 == s) := by
    cases s <;> simp [gE, Ex.d]
  rcases hn with rfl | rfl | rfl
  · have h1 := hf _ List.mem_cons_self
    simp only [bp_bl h hb] at h1
    simp only [tmB, exN, Ex.d, hg, h1]
    cases s <;> rfl
  · have h1 := hf _ List.mem_cons_self
    have h2 := hf _ (List.mem_cons_of_mem _ List.mem_cons_self)
    simp only [bp_bl h hb] at h2
    simp only [tmB, exN, Ex.d, hg, h2, sm_cr h]
    simp only at h1
    rw [h1]
    cases s <;> rfl
  · have h1 := hf _ List.mem_cons_self
    have h2 := hf _ (List.mem_cons_of_mem _ List.mem_cons_self)
    simp only [bp_bl h hb] at h2
    simp only [tmB, exN, Ex.d, hg, h2, sm_cr h]
    simp only at h1
    rw [h1]
    cases s <;> rfl
def tms : List (List (Ex × Bool) × Ex) := [tmX 1 4 true, tmX 1 4 false, tmX 2 4 true, tmX 2 4 false, tmX 2 5 true, tmX 2 5 false, tmB 128 true 2, tmB 128 true 3, tmB 128 true 4, tmB 128 false 2, tmB 128 false 3, tmB 128 false 4, tmB 64 true 2, tmB 64 true 3, tmB 64 true 4, tmB 64 false 2, tmB 64 false 3, tmB 64 false 4, tmB 2 true 2, tmB 2 true 3, tmB 2 true 4, tmB 2 false 2, tmB 2 false 3, tmB 2 false 4, tmB 1 true 2, tmB 1 true 3, tmB 1 true 4, tmB 1 false 2, tmB 1 false 3, tmB 1 false 4]
theorem forall_nil {α : Type} {p : α → Prop} : ∀ c, c ∈ ([] : List α) → p c := fun c hc => by cases hc
theorem tms_ok : ∀ t, t ∈ tms → TmOk t := (forall_cons (tmX_ok (n := 1) (by omega) (k := 4) (by omega) true) (forall_cons (tmX_ok (n := 1) (by omega) (k := 4) (by omega) false) (forall_cons (tmX_ok (n := 2) (by omega) (k := 4) (by omega) true) (forall_cons (tmX_ok (n := 2) (by omega) (k := 4) (by omega) false) (forall_cons (tmX_ok (n := 2) (by omega) (k := 5) (by omega) true) (forall_cons (tmX_ok (n := 2) (by omega) (k := 5) (by omega) false) (forall_cons (tmB_ok (b := 128) (by omega) true 2 (by omega)) (forall_cons (tmB_ok (b := 128) (by omega) true 3 (by omega)) (forall_cons (tmB_ok (b := 128) (by omega) true 4 (by omega)) (forall_cons (tmB_ok (b := 128) (by omega) false 2 (by omega)) (forall_cons (tmB_ok (b := 128) (by omega) false 3 (by omega)) (forall_cons (tmB_ok (b := 128) (by omega) false 4 (by omega)) (forall_cons (tmB_ok (b := 64) (by omega) true 2 (by omega)) (forall_cons (tmB_ok (b := 64) (by omega) true 3 (by omega)) (forall_cons (tmB_ok (b := 64) (by omega) true 4 (by omega)) (forall_cons (tmB_ok (b := 64) (by omega) false 2 (by omega)) (forall_cons (tmB_ok (b := 64) (by omega) false 3 (by omega)) (forall_cons (tmB_ok (b := 64) (by omega) false 4 (by omega)) (forall_cons (tmB_ok (b := 2) (by omega) true 2 (by omega)) (forall_cons (tmB_ok (b := 2) (by omega) true 3 (by omega)) (forall_cons (tmB_ok (b := 2) (by omega) true 4 (by omega)) (forall_cons (tmB_ok (b := 2) (by omega) false 2 (by omega)) (forall_cons (tmB_ok (b := 2) (by omega) false 3 (by omega)) (forall_cons (tmB_ok (b := 2) (by omega) false 4 (by omega)) (forall_cons (tmB_ok (b := 1) (by omega) true 2 (by omega)) (forall_cons (tmB_ok (b := 1) (by omega) true 3 (by omega)) (forall_cons (tmB_ok (b := 1) (by omega) true 4 (by omega)) (forall_cons (tmB_ok (b := 1) (by omega) false 2 (by omega)) (forall_cons (tmB_ok (b := 1) (by omega) false 3 (by omega)) (forall_cons (tmB_ok (b := 1) (by omega) false 4 (by omega)) forall_nil))))))))))))))))))))))))))))))
def fEq : List (Ex × Bool) → List (Ex × Bool) → Bool
  | [], [] => true
  | p :: l, q :: m => p.1.beq q.1 && p.2 == q.2 && fEq l m
  | _, _ => false
theorem fEq_sound : ∀ {l m : List (Ex × Bool)}, fEq l m = true → l = m
  | [], [], _ => rfl
  | p :: l, q :: m, h => by
    simp only [fEq, Bool.and_eq_true, beq_iff_eq] at h
    rw [fEq_sound h.2, show p = q from Prod.ext (Ex.beq_sound h.1.1) h.1.2]
def chk3 (ri : List (Option A)) (rb : List (Option B)) (c : Pc) : Bool := match ri, rb with
  | [], [some (.c true), some (.c true)] => true
  | [], [some (.c true), some x] => tms.any fun t => t.2.beq (exOf c.out 40 (.inr x)) && fEq t.1 (c.kn.map fun p => (exOf c.out 40 (.inr (.v p.1)), p.2))
  | _, _ => false
theorem chk3_ok {ri : List (Option A)} {rb : List (Option B)} {c : Pc} {ρ : Env} (h : chk3 ri rb c = true) (hr : Rng ρ) (hg : Sx.Good Fun0 ρ c.out) (hk : KbOk ρ c.kn) {a b : Bool} (hb : ∀ j x, rb.getD j none = some x → x.d ρ = [a, b].getD j false) : a = true ∧ b = true := by
  unfold chk3 at h
  split at h
  · exact ⟨(hb 0 _ rfl).symm, (hb 1 _ rfl).symm⟩
  · rename_i x _
    refine ⟨(hb 0 _ rfl).symm, ?_⟩
    rw [List.any_eq_true] at h
    obtain ⟨t, ht, h⟩ := h
    rw [Bool.and_eq_true] at h
    have e1 := Ex.beq_sound h.1
    have e2 := fEq_sound h.2
    have h3 := tms_ok t ht ρ hr (fun p hp => by
      rw [e2, List.mem_map] at hp
      obtain ⟨q, hq, rfl⟩ := hp
      have := exOf_ok hg 40 (.inr (.v q.1))
      exact Eq.trans (show _ = _ from this) (hk q hq))
    rw [e1] at h3
    have h4 : _ = _ := exOf_ok hg 40 (.inr x)
    have h5 : x.d ρ = b := hb 1 _ rfl
    rw [← h5, ← h4]
    exact h3
  · cases h
def hy3 : List Em := [.di 15 (.ar .rem .u8 (.v 4) (.c 16)), .di 16 (.ar .quo .u8 (.v 4) (.c 64)), .di 17 (.ar .mul .u8 (.v 16) (.c 64)), .di 18 (.ar .add .u8 (.v 15) (.v 17)), .di 19 (.ar .rem .u8 (.v 5) (.c 16)), .di 20 (.ar .quo .u8 (.v 5) (.c 64)), .di 21 (.ar .mul .u8 (.v 20) (.c 64)), .di 22 (.ar .add .u8 (.v 19) (.v 21))]
def bs3 : List B := [.v 0, .v 1, .v 2, .v 3, .v 4, .v 5, .v 6, .v 7, .v 8, .v 9, .v 10, .v 11]
def is3 (op : A) : List A := [.v 0, .v 1, .v 2, .v 3, .v 4, .v 5, .v 6, .v 7, .v 8, .v 9, .v 10, .v 11, .v 12, op, .v 14]
noncomputable def run3 (op : A) (O : List Int) (dt : DT) : Bool := (peRun N3 (is3 op) bs3 23 12 hy3 [(18, 207), (22, 207), (14, 255)] [(13, O), (7, all256)] dt).ok chk3
end Go.Proofs.YtalnndmnnffnmaaGreat.Cr
