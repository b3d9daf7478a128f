/-
  Merged texts (CeB, CeS). No condition.
-/
import Derived.Test.YtgbgibbonhklgaaChecked
import Derived.Shelf.SlicesG.Cmp
import Derived.Test.YtgbgibbonhklgaaCm3
import Derived.Test.YtgbgibbonhklgaaCm7
set_option linter.unusedVariables false
set_option linter.unusedSimpArgs false
namespace Go.Proofs
open Go.Shelf Go.RowKit Go.Lib Go.Sort
def Try.sortIv_ren : Go.Shelf.Ren := ⟨fun | 6 => 49 | 15 => 56 | 14 => 55 | 28 => 65 | 29 => 66 | 20 => 57 | 21 => 58 | 22 => 59 | 23 => 60 | 24 => 61 | 25 => 62 | 26 => 63 | 27 => 64 | 46 => 67 | 47 => 68 | 48 => 69 | 49 => 70 | 50 => 71 | 57 => 72 | n => n, fun | 22 => 22 | 24 => 55 | 25 => 62 | 3 => 3 | 39 => 78 | 0 => 0 | 53 => 88 | 55 => 90 | 4 => 4 | 46 => 81 | 45 => 80 | 50 => 85 | 5 => 5 | 9 => 9 | 66 => 91 | 70 => 95 | 76 => 97 | 77 => 98 | n => n, fun | n => n⟩
theorem Try.sortIv : Go.Proofs.SlLaysF0.n6 Try.prog Try.sortIv_ren := {
  mixed := by kernel_rfl
  f6 := ⟨Try.f49.name, by decide, Try.func49.trans (congrArg some (by kernel_rfl))⟩
  f14 := ⟨Try.f55.name, by decide, Try.func55.trans (congrArg some (by kernel_rfl))⟩
  f15 := Try.func56.trans (congrArg some (by kernel_rfl))
  f20 := ⟨Try.f57.name, by decide, Try.func57.trans (congrArg some (by kernel_rfl))⟩
  f21 := ⟨Try.f58.name, by decide, Try.func58.trans (congrArg some (by kernel_rfl))⟩
  f22 := ⟨Try.f59.name, by decide, Try.func59.trans (congrArg some (by kernel_rfl))⟩
  f23 := ⟨Try.f60.name, by decide, Try.func60.trans (congrArg some (by kernel_rfl))⟩
  f24 := ⟨Try.f61.name, by decide, Try.func61.trans (congrArg some (by kernel_rfl))⟩
  f25 := ⟨Try.f62.name, by decide, Try.func62.trans (congrArg some (by kernel_rfl))⟩
  f26 := ⟨Try.f63.name, by decide, Try.func63.trans (congrArg some (by kernel_rfl))⟩
  f27 := ⟨Try.f64.name, by decide, Try.func64.trans (congrArg some (by kernel_rfl))⟩
  f28 := Try.func65.trans (congrArg some (by kernel_rfl))
  f29 := Try.func66.trans (congrArg some (by kernel_rfl))
  f46 := ⟨Try.f67.name, by decide, Try.func67.trans (congrArg some (by kernel_rfl))⟩
  f47 := Try.func68.trans (congrArg some (by kernel_rfl))
  f48 := Try.func69.trans (congrArg some (by kernel_rfl))
  f49 := ⟨Try.f70.name, by decide, Try.func70.trans (congrArg some (by kernel_rfl))⟩
  f50 := ⟨Try.f71.name, by decide, Try.func71.trans (congrArg some (by kernel_rfl))⟩
  f57 := ⟨Try.f72.name, by decide, Try.func72.trans (congrArg some (by kernel_rfl))⟩
  t0 := Try.underlying0
  a0 := Try.isAgg0
  z0 := Try.sizeOf0
  v0 := Try.zeroValue0
  t3 := Try.underlying3
  a3 := Try.isAgg3
  z3 := Try.sizeOf3
  v3 := Try.zeroValue3
  t4 := Try.underlying4
  a4 := Try.isAgg4
  z4 := Try.sizeOf4
  v4 := Try.zeroValue4
  t5 := Try.underlying5
  a5 := Try.isAgg5
  z5 := Try.sizeOf5
  v5 := Try.zeroValue5
  t9 := Try.underlying9
  a9 := Try.isAgg9
  z9 := Try.sizeOf9
  v9 := Try.zeroValue9
  t22 := Try.underlying22
  a22 := Try.isAgg22
  z22 := Try.sizeOf22
  v22 := Try.zeroValue22
  t25 := Try.underlying62
  a25 := Try.isAgg62
  z25 := Try.sizeOf62
  v25 := Try.zeroValue62
  t39 := Try.underlying78
  a39 := Try.isAgg78
  z39 := Try.sizeOf78
  v39 := Try.zeroValue78
  t45 := Try.underlying80
  a45 := Try.isAgg80
  z45 := Try.sizeOf80
  v45 := Try.zeroValue80
  t46 := Try.underlying81
  a46 := Try.isAgg81
  z46 := Try.sizeOf81
  v46 := Try.zeroValue81
  t50 := Try.underlying85
  a50 := Try.isAgg85
  z50 := Try.sizeOf85
  v50 := Try.zeroValue85
  t53 := Try.underlying88
  a53 := Try.isAgg88
  z53 := Try.sizeOf88
  v53 := Try.zeroValue88
  t55 := Try.underlying90
  a55 := Try.isAgg90
  z55 := Try.sizeOf90
  v55 := Try.zeroValue90
  t66 := Try.underlying91
  a66 := Try.isAgg91
  z66 := Try.sizeOf91
  v66 := Try.zeroValue91
  t70 := Try.underlying95
  a70 := Try.isAgg95
  z70 := Try.sizeOf95
  v70 := Try.zeroValue95
  t76 := Try.underlying97
  a76 := Try.isAgg97
  z76 := Try.sizeOf97
  v76 := Try.zeroValue97
  t77 := Try.underlying98
  a77 := Try.isAgg98
  z77 := Try.sizeOf98
  v77 := Try.zeroValue98 }
def Try.cmpInt_ren : Go.Shelf.Ren := ⟨fun | 5 => 37 | 7 => 51 | n => n, fun | 22 => 3 | 3 => 3 | 4 => 4 | n => n, fun | n => n⟩
theorem Try.cmpInt : Go.Proofs.SlLaysC2.n5 Try.prog Try.cmpInt_ren := {
  mixed := by kernel_rfl
  f5 := ⟨Try.f37.name, by decide, Try.func37.trans (congrArg some (by kernel_rfl))⟩
  f7 := ⟨Try.f51.name, by decide, Try.func51.trans (congrArg some (by kernel_rfl))⟩
  t3 := Try.underlying3
  a3 := Try.isAgg3
  z3 := Try.sizeOf3
  v3 := Try.zeroValue3
  t4 := Try.underlying4
  a4 := Try.isAgg4
  z4 := Try.sizeOf4
  v4 := Try.zeroValue4
  t22 := Try.underlying3
  a22 := Try.isAgg3
  z22 := Try.sizeOf3
  v22 := Try.zeroValue3 }
def Try.cloneB_ren : Go.Shelf.Ren := ⟨fun | 41 => 41 | n => n, fun | 22 => 34 | 23 => 36 | 4 => 4 | n => n, fun | n => n⟩
theorem Try.cloneB : Go.Proofs.SlLaysE0.n41 Try.prog Try.cloneB_ren := {
  mixed := by kernel_rfl
  f41 := ⟨Try.f41.name, by decide, Try.func41.trans (congrArg some (by kernel_rfl))⟩
  t4 := Try.underlying4
  a4 := Try.isAgg4
  z4 := Try.sizeOf4
  v4 := Try.zeroValue4
  t22 := Try.underlying34
  a22 := Try.isAgg34
  z22 := Try.sizeOf34
  v22 := Try.zeroValue34 }

set_option maxHeartbeats 1000000 in
theorem Try.closure36 (x y : Int × Int) (W : World) : Calls Try.prog 36 #[.agg #[.int .i64 x.1, .int .i64 x.2], .agg #[.int .i64 y.1, .int .i64 y.2]] W fun e w' => e = .returned (.int .i64 (Lib.compareInt x.1 y.1)) ∧ ∃ q os', w' = grow (W.drewN q) os' := by
  have hcon := fun W' => AnyG.cmp_Compare_int Try.cmpInt x.1 y.1 W'
  change ∀ W', Calls Try.prog 37 _ _ _ at hcon
  generalize Lib.compareInt x.1 y.1 = r at hcon ⊢
  go_enter Try.func36, Try.ntmps36
  go_wp2_with (go_at_call 37; refine (hcon _).mono ?_; rintro e w' ⟨rfl, rfl⟩)
  go_ret
  exact ⟨rfl, 0, _, by rw [alloc_eq_grow, alloc_eq_grow, grow_grow]; rfl⟩
theorem Try.cmpEq (x y : Int × Int) : Lib.compareInt x.1 y.1 = Ytgbgibbonhklgaa.Sx.cfR x y := by
  unfold Lib.compareInt Ytgbgibbonhklgaa.Sx.cfR
  by_cases h1 : x.1 < y.1
  · simp [h1]
  · by_cases h2 : y.1 < x.1
    · simp [h1, h2]; omega
    · simp [h1, h2]; omega
theorem Try.cmpLays36 (blk off size : Nat) (w : World) : CmpLays Try.prog 36 #[] Ytgbgibbonhklgaa.Sx.encR 2 Ytgbgibbonhklgaa.Sx.cfR blk off size w :=
  fun _ _ _ _ x y => (Try.closure36 x y _).mono fun e w' ⟨he, hw⟩ => ⟨by rw [he, Try.cmpEq], hw⟩
end Go.Proofs
namespace Go.Proofs.Ytgbgibbonhklgaa.Ce
open Go Go.Proofs Go.Proofs.Ytgbgibbonhklgaa.Sx

theorem call41 : ∀ args w, (callFunc 41 args).run Try.prog w = .ok (.enter 41 args) w := callable_of Try.func41 (by kernel_rfl) (by kernel_rfl)
theorem call49 : ∀ args w, (callFunc 49 args).run Try.prog w = .ok (.enter 49 args) w := callable_of Try.func49 (by kernel_rfl) (by kernel_rfl)
theorem call36' : ∀ args w, (callFunc 36 args).run Try.prog w = .ok (.enter 36 args) w := callable_of Try.func36 (by kernel_rfl) (by kernel_rfl)
def gl : Gl := []
noncomputable def hC (I : List InlI) (X : Sums) : Hnd := hndL Try.prog gl I (asH [] (sortH 49 36 (cloneH Try.prog 41 34 (hnd0 X)))) 12
theorem hC_ok {Φ : Funs} {X : Sums} {I : List InlI} (hX : AllOk Try.prog Φ gl X) (hΦ : Φ 49 = sortF) (hI : nameOkL Try.prog I = true) (hL : InlOk Φ I) : HOk Try.prog Φ gl (hC I X) :=
  hndL_ok (asH_ok (sortH_ok (cloneH_ok (hnd0_ok hX) Try.cloneB call41) Try.sortIv call49 Try.isAgg55 Try.sizeOf55 (g := 36) (by decide) call36' (fun blk off size w => Try.cmpLays36 blk off size w) hΦ) []) hI hL 12
/-- slices.SortFunc's number stands in the table, for its meaning alone. -/
def s49 : Sum := { args := [], tup := false, res := [], pre := true }
noncomputable def T0 : List (Nat × Sum × Fun) := [(49, s49, sortF)]
theorem c49 : Contract Try.prog gl 49 s49 sortF := fun vs w is bs ps h1 h2 h3 h4 h5 h6 hp => by
  have := hp rfl
  simp [sortF] at this
theorem A0 : AllOk Try.prog (tabF T0) gl (tabS T0) := AllOk.cons (s := s49) c49 call49 (fun S h => by cases h) AllOk.nil
def sp0 : List (Nat × List Nat × List Nat × List Nat × Bool) := [(31, [], [], [], false), (47, [], [], [], false), (32, [], [], [], false), (39, [], [], [], false), (34, [], [], [], false), (35, [], [], [], false), (50, [], [], [], false), (48, [], [], [], false), (54, [], [], [], true), (44, [], [], [], false), (42, [], [], [], false), (52, [], [], [], false), (53, [], [], [], false), (45, [], [], [], false)]
end Go.Proofs.Ytgbgibbonhklgaa.Ce
namespace Go.Proofs.Ytgbgibbonhklgaa.Ce
open Go Go.Proofs Go.Proofs.Ytgbgibbonhklgaa.Sx
/-! seepage/cells.may -/
def s33 : Sum := { args := [(.val true [(.int .i64), (.int .i64)])], tup := false, res := [(false, [.bool])], pre := false }
def S33 : Smry := (.mk [(.db 0 (.cm .geq (.v 0) (.c 0))), (.db 1 (.cm .geq (.v 1) (.v 0))), (.db 2 (.and (.v 0) (.v 1))), (.db 3 (.cm .lss (.v 1) (.c 65536))), (.db 4 (.and (.v 2) (.v 3)))] [] [(.v 4)])
def i33 : List (Nat × List Nat × List Nat × List Nat × Bool) := sp0
theorem x33 : AllOk Try.prog (tabF T0) gl (tabS T0) := A0
theorem y33l : LsOk (tabF T0) [] := fun p hp => by cases hp
theorem h33 : HOk Try.prog (tabF T0) gl (hC (mkIs [] i33) (tabS T0)) := hC_ok x33 (by kernel_rfl) (by kernel_rfl) (mkIs_ok y33l)
theorem k33 : fnX Try.prog (hC (mkIs [] i33) (tabS T0)) gl (ctlL Try.f33 gl s33 []) Try.f33 s33 = some S33 := by kernel_rfl
noncomputable def F33 : Fun := S33.run (tabF T0) false
theorem y33 : LoopsOk (tabF T0) (ctlL Try.f33 gl s33 []) := fun p hp => by cases hp
theorem z33 : (wsEm S33.em (argI s33.args) (argB s33.args) && shOk s33 && noOb S33.em) = true := by kernel_rfl
theorem d33 : Contract Try.prog gl 33 s33 F33 := contract_of h33 Try.func33 y33 k33 z33
theorem c33 : Contract Try.prog gl 33 s33 F33 := d33
theorem call33 : ∀ args w, (callFunc 33 args).run Try.prog w = .ok (.enter 33 args) w := callable_of Try.func33 (by kernel_rfl) (by kernel_rfl)
noncomputable def e33 : Nat × Sum × Fun := (33, withInl s33 S33, F33)
noncomputable def T1 : List (Nat × Sum × Fun) := e33 :: T0
theorem A1 : AllOk Try.prog (tabF T1) gl (tabS T1) := AllOk.cons (s := e33.2.1) c33 call33 (fun S h => by cases h; exact ⟨rfl, fun _ _ => rfl⟩) A0
/-! seepage/cells.Check -/
def s11 : Sum := { args := [(.val false [(.sl [(.int .i64), (.int .i64)])])], tup := false, res := [(false, [(.int .i64)])], pre := true }
def S11 : Smry := (.mk [(.call 101100 [(.v 0), (.v 1), (.c 0)] [] 2 0 0 3), (.ob [] (.v 0)), (.di 2 (.ite (.v 2) (.c 0) (.c 1)))] [(.v 2)] [])
def L101100 : LAnn := { id := 101100, ga := [0, 1], gb := [], hv := [7], dr := [1, 9, 10, 11, 12, 13, 14, 15, 16, 17, 18, 19, 20, 21, 22, 23, 24, 25, 26, 27, 28, 29, 31], hb := [], db := [], xs := [2], xb := [], nI := 3, nB := 0, S := (.mk [(.db 0 (.cm .lss (.v 2) (.v 1))), (.db 1 (.cm .geq (.v 2) (.c 0))), (.ob [((.v 0), true)] (.v 1)), (.db 2 (.cm .lss (.v 2) (.v 1))), (.ob [((.v 0), true)] (.v 2)), (.di 3 (.get (.v 0) (.v 2) 2 0)), (.di 4 (.get (.v 0) (.v 2) 2 1)), (.db 3 (.cm .geq (.v 3) (.c 0))), (.db 4 (.cm .geq (.v 4) (.v 3))), (.db 5 (.and (.v 3) (.v 4))), (.db 6 (.cm .lss (.v 4) (.c 65536))), (.db 7 (.and (.v 5) (.v 6))), (.db 8 (.not (.v 7))), (.db 9 (.cm .gtr (.v 2) (.c 0))), (.di 5 (.ar .sub .i64 (.v 2) (.c 1))), (.db 10 (.cm .geq (.v 5) (.c 0))), (.ob [((.v 0), true), ((.v 8), false), ((.v 9), true)] (.v 10)), (.db 11 (.cm .lss (.v 5) (.v 1))), (.ob [((.v 0), true), ((.v 8), false), ((.v 9), true)] (.v 11)), (.di 6 (.get (.v 0) (.v 5) 2 1)), (.di 7 (.ar .add .i64 (.v 6) (.c 2))), (.db 12 (.cm .lss (.v 3) (.v 7))), (.db 13 (.and (.v 9) (.v 12))), (.db 14 (.or (.v 8) (.v 13))), (.di 8 (.ar .add .i64 (.v 2) (.c 1))), (.db 15 (.not (.v 14))), (.db 16 (.not (.v 14))), (.db 17 (.and (.v 0) (.v 16))), (.db 18 (.and (.v 0) (.v 14))), (.db 19 (.not (.v 0)))] [(.v 0), (.v 1), (.v 8)] [(.v 17), (.v 18), (.v 19)]) }
def l11 : List (Nat × LAnn) := [(3, L101100)]
def i11 : List (Nat × List Nat × List Nat × List Nat × Bool) := [(31, [], [], [], false), (47, [], [], [], false), (32, [], [], [], false), (39, [], [], [], false), (34, [], [], [], false), (35, [], [], [], false), (50, [], [], [], false), (48, [], [], [], false), (54, [], [], [], true), (44, [], [], [], false), (42, [], [], [], false), (52, [], [], [], false), (53, [], [], [], false), (45, [], [], [], false)]
theorem x11 : AllOk Try.prog (lpF (l11.map (·.2)) (tabF T1)) gl (tabS T1) := (AllOk.loops (l := l11.map (·.2)) A1 (by kernel_rfl))
theorem y11l : LsOk (lpF (l11.map (·.2)) (tabF T1)) l11 := LoopsOk.of (fn := Try.f11) (gl := gl) (s := s11) (l := l11) (by kernel_rfl)
theorem h11 : HOk Try.prog (lpF (l11.map (·.2)) (tabF T1)) gl (hC (mkIs l11 i11) (tabS T1)) := hC_ok x11 (by kernel_rfl) (by kernel_rfl) (mkIs_ok y11l)
theorem k11 : fnX Try.prog (hC (mkIs l11 i11) (tabS T1)) gl (ctlL Try.f11 gl s11 (sel l11 [0])) Try.f11 s11 = some S11 := by kernel_rfl
noncomputable def F11 : Fun := S11.run (lpF (l11.map (·.2)) (tabF T1)) true
theorem y11 : LoopsOk (lpF (l11.map (·.2)) (tabF T1)) (ctlL Try.f11 gl s11 (sel l11 [0])) := fun p hp => y11l p (sel_mem hp)
theorem z11 : (wsEm S11.em (argI s11.args) (argB s11.args) && shOk s11 && s11.pre) = true := by kernel_rfl
theorem d11 : Contract Try.prog gl 11 s11 F11 := contract_pre h11 Try.func11 y11 k11 z11
theorem c11 : Contract Try.prog gl 11 s11 F11 := d11
theorem call11 : ∀ args w, (callFunc 11 args).run Try.prog w = .ok (.enter 11 args) w := callable_of Try.func11 (by kernel_rfl) (by kernel_rfl)
noncomputable def e11 : Nat × Sum × Fun := (11, s11, F11)
noncomputable def T2 : List (Nat × Sum × Fun) := e11 :: T1
theorem A2 : AllOk Try.prog (tabF T2) gl (tabS T2) := AllOk.cons (s := e11.2.1) c11 call11 (fun S h => by cases h) A1
/-! seepage/cells.Make -/
def s23 : Sum := { args := [(.val false [(.int .i64)]), (.val false [.str]), (.val false [(.sl [(.int .i64), (.int .i64)])])], tup := true, res := [(false, [(.sl [(.int .u8), .bool])]), (false, [(.int .i64)])], pre := true }
def S23 : Smry := (.mk [(.db 0 (.cm .lss (.v 0) (.c 0))), (.db 1 (.cm .gtr (.v 0) (.c 65536))), (.db 2 (.or (.v 0) (.v 1))), (.di 4 (.lenq (.v 1) 1)), (.db 3 (.cm .gtr (.v 4) (.v 0))), (.db 4 (.or (.v 2) (.v 3))), (.call 11 [(.v 2), (.v 3)] [] 5 1 5 1), (.ob [((.v 4), false)] (.v 5)), (.db 6 (.cm .neq (.v 5) (.c 0))), (.db 7 (.or (.v 4) (.v 6))), (.db 8 (.cm .geq (.v 0) (.c 0))), (.ob [((.v 7), false)] (.v 8)), (.db 9 (.cm .leq (.v 0) (.c 140737488355328))), (.ob [((.v 7), false)] (.v 9)), (.di 6 (.rep (.v 0) 2)), (.di 7 (.lenq (.v 1) 1)), (.call 102300 [(.v 1), (.v 7), (.c 0), (.v 6), (.v 0)] [] 8 2 10 2), (.ob [((.v 7), false)] (.v 10)), (.call 102301 [(.v 0), (.v 2), (.v 3), (.c 0), (.v 8), (.v 9)] [] 10 2 12 2), (.ob [((.v 7), false)] (.v 12)), (.db 14 (.not (.v 7))), (.di 12 (.ite (.v 14) (.v 10) (.c 0))), (.di 13 (.ite (.v 14) (.v 11) (.c 0))), (.di 14 (.ite (.v 14) (.c 0) (.c 1)))] [(.v 12), (.v 13), (.v 14)] [])
def L102300 : LAnn := { id := 102300, ga := [1, 7], gb := [], hv := [34], dr := [3, 4, 5, 10, 13, 14, 15, 16, 17, 18, 19, 20, 21, 22, 23, 24, 25, 26, 27, 28, 30, 31, 32, 36, 37, 38, 39, 40, 41, 42, 43, 44, 49, 50, 51, 52, 53, 54, 55, 56, 57, 58, 60, 61, 62, 63, 64, 65, 66, 67], hb := [1], db := [], xs := [6, 7], xb := [1], nI := 5, nB := 0, S := (.mk [(.db 0 (.cm .lss (.v 2) (.v 1))), (.db 1 (.cm .geq (.v 2) (.c 0))), (.ob [((.v 0), true)] (.v 1)), (.di 5 (.lenq (.v 0) 1)), (.db 2 (.cm .lss (.v 2) (.v 5))), (.ob [((.v 0), true)] (.v 2)), (.di 6 (.get (.v 0) (.v 2) 1 0)), (.db 3 (.cm .geq (.v 2) (.c 0))), (.ob [((.v 0), true)] (.v 3)), (.db 4 (.cm .lss (.v 2) (.v 4))), (.ob [((.v 0), true)] (.v 4)), (.di 7 (.setq (.v 3) (.v 2) 2 0 (.v 6))), (.di 8 (.ar .add .i64 (.v 2) (.c 1))), (.db 5 (.not (.v 0)))] [(.v 0), (.v 1), (.v 8), (.v 7), (.v 4), (.v 3), (.v 4)] [(.v 0), (.v 5)]) }
def L102301 : LAnn := { id := 102301, ga := [0, 2, 3], gb := [], hv := [47], dr := [3, 4, 5, 10, 13, 14, 15, 16, 17, 18, 19, 20, 21, 22, 23, 24, 25, 26, 27, 28, 30, 31, 32, 36, 37, 38, 39, 40, 41, 42, 43, 44, 49, 50, 51, 52, 53, 54, 55, 56, 57, 58, 60, 61, 62, 63, 64, 65, 66, 67], hb := [1], db := [], xs := [6, 7], xb := [1], nI := 6, nB := 0, S := (.mk [(.db 0 (.cm .lss (.v 3) (.v 2))), (.db 1 (.cm .geq (.v 3) (.c 0))), (.ob [((.v 0), true)] (.v 1)), (.db 2 (.cm .lss (.v 3) (.v 2))), (.ob [((.v 0), true)] (.v 2)), (.di 6 (.get (.v 1) (.v 3) 2 0)), (.di 7 (.get (.v 1) (.v 3) 2 1)), (.call 102302 [(.v 0), (.v 7), (.v 6), (.v 4), (.v 5)] [] 8 2 3 2), (.ob [((.v 0), true)] (.v 3)), (.di 10 (.ar .add .i64 (.v 3) (.c 1))), (.db 5 (.not (.v 0)))] [(.v 0), (.v 1), (.v 2), (.v 10), (.v 8), (.v 9), (.v 4), (.v 5)] [(.v 0), (.v 5)]) }
def L102302 : LAnn := { id := 102302, ga := [0, 7], gb := [], hv := [12], dr := [3, 4, 5, 10, 13, 14, 15, 16, 17, 18, 19, 20, 21, 22, 23, 24, 25, 26, 27, 28, 30, 31, 32, 36, 37, 38, 39, 40, 41, 42, 43, 44, 49, 50, 51, 52, 53, 54, 55, 56, 57, 58, 60, 61, 62, 63, 64, 65, 66, 67], hb := [1], db := [], xs := [6, 7], xb := [1], nI := 5, nB := 0, S := (.mk [(.di 5 (.ar .sub .i64 (.v 0) (.c 1))), (.di 6 (.mn (.v 1) (.v 5))), (.db 0 (.cm .leq (.v 2) (.v 6))), (.db 1 (.cm .geq (.v 2) (.c 0))), (.ob [((.v 0), true)] (.v 1)), (.db 2 (.cm .lss (.v 2) (.v 4))), (.ob [((.v 0), true)] (.v 2)), (.di 7 (.setq (.v 3) (.v 2) 2 1 (.c 1))), (.di 8 (.ar .add .i64 (.v 2) (.c 1))), (.db 3 (.not (.v 0)))] [(.v 0), (.v 1), (.v 8), (.v 7), (.v 4), (.v 3), (.v 4)] [(.v 0), (.v 3)]) }
def l23 : List (Nat × LAnn) := [(6, L102300), (11, L102301), (14, L102302)]
def i23 : List (Nat × List Nat × List Nat × List Nat × Bool) := [(31, [], [], [], false), (47, [], [], [], false), (32, [], [], [], false), (39, [], [], [], false), (34, [], [], [], false), (35, [], [], [], false), (50, [], [], [], false), (48, [], [], [], false), (54, [], [], [], true), (44, [], [], [], false), (42, [], [], [], false), (52, [], [], [], false), (53, [], [], [], false), (45, [], [], [], false)]
theorem x23 : AllOk Try.prog (lpF (l23.map (·.2)) (tabF T2)) gl (tabS T2) := (AllOk.loops (l := l23.map (·.2)) A2 (by kernel_rfl))
theorem y23l : LsOk (lpF (l23.map (·.2)) (tabF T2)) l23 := LoopsOk.of (fn := Try.f23) (gl := gl) (s := s23) (l := l23) (by kernel_rfl)
theorem h23 : HOk Try.prog (lpF (l23.map (·.2)) (tabF T2)) gl (hC (mkIs l23 i23) (tabS T2)) := hC_ok x23 (by kernel_rfl) (by kernel_rfl) (mkIs_ok y23l)
theorem k23 : fnX Try.prog (hC (mkIs l23 i23) (tabS T2)) gl (ctlL Try.f23 gl s23 (sel l23 [0, 1, 2])) Try.f23 s23 = some S23 := by kernel_rfl
noncomputable def F23 : Fun := S23.run (lpF (l23.map (·.2)) (tabF T2)) true
theorem y23 : LoopsOk (lpF (l23.map (·.2)) (tabF T2)) (ctlL Try.f23 gl s23 (sel l23 [0, 1, 2])) := fun p hp => y23l p (sel_mem hp)
theorem z23 : (wsEm S23.em (argI s23.args) (argB s23.args) && shOk s23 && s23.pre) = true := by kernel_rfl
theorem d23 : Contract Try.prog gl 23 s23 F23 := contract_pre h23 Try.func23 y23 k23 z23
theorem c23 : Contract Try.prog gl 23 s23 F23 := d23
theorem call23 : ∀ args w, (callFunc 23 args).run Try.prog w = .ok (.enter 23 args) w := callable_of Try.func23 (by kernel_rfl) (by kernel_rfl)
noncomputable def e23 : Nat × Sum × Fun := (23, s23, F23)
noncomputable def T3 : List (Nat × Sum × Fun) := e23 :: T2
theorem A3 : AllOk Try.prog (tabF T3) gl (tabS T3) := AllOk.cons (s := e23.2.1) c23 call23 (fun S h => by cases h) A2
/-! cmp.isNaN[int] -/
def s51 : Sum := { args := [(.val false [(.int .i64)])], tup := false, res := [(false, [.bool])], pre := false }
def S51 : Smry := (.mk [(.db 0 (.cm .neq (.v 0) (.v 0)))] [] [(.v 0)])
def i51 : List (Nat × List Nat × List Nat × List Nat × Bool) := sp0
theorem x51 : AllOk Try.prog (tabF T3) gl (tabS T3) := A3
theorem y51l : LsOk (tabF T3) [] := fun p hp => by cases hp
theorem h51 : HOk Try.prog (tabF T3) gl (hC (mkIs [] i51) (tabS T3)) := hC_ok x51 (by kernel_rfl) (by kernel_rfl) (mkIs_ok y51l)
theorem k51 : fnX Try.prog (hC (mkIs [] i51) (tabS T3)) gl (ctlL Try.f51 gl s51 []) Try.f51 s51 = some S51 := by kernel_rfl
noncomputable def F51 : Fun := S51.run (tabF T3) false
theorem y51 : LoopsOk (tabF T3) (ctlL Try.f51 gl s51 []) := fun p hp => by cases hp
theorem z51 : (wsEm S51.em (argI s51.args) (argB s51.args) && shOk s51 && noOb S51.em) = true := by kernel_rfl
theorem d51 : Contract Try.prog gl 51 s51 F51 := contract_of h51 Try.func51 y51 k51 z51
theorem c51 : Contract Try.prog gl 51 s51 F51 := d51
theorem call51 : ∀ args w, (callFunc 51 args).run Try.prog w = .ok (.enter 51 args) w := callable_of Try.func51 (by kernel_rfl) (by kernel_rfl)
noncomputable def e51 : Nat × Sum × Fun := (51, withInl s51 S51, F51)
noncomputable def T4 : List (Nat × Sum × Fun) := e51 :: T3
theorem A4 : AllOk Try.prog (tabF T4) gl (tabS T4) := AllOk.cons (s := e51.2.1) c51 call51 (fun S h => by cases h; exact ⟨rfl, fun _ _ => rfl⟩) A3
/-! cmp.Compare[int] -/
def s37 : Sum := { args := [(.val false [(.int .i64)]), (.val false [(.int .i64)])], tup := false, res := [(false, [(.int .i64)])], pre := false }
def S37 : Smry := (.mk [(.db 0 (.cm .neq (.v 0) (.v 0))), (.db 1 (.cm .neq (.v 1) (.v 1))), (.db 2 (.not (.v 1))), (.di 2 (.ite (.v 2) (.c (-1)) (.c 0))), (.db 3 (.cm .lss (.v 0) (.v 1))), (.db 4 (.cm .gtr (.v 0) (.v 1))), (.db 5 (.not (.v 4))), (.di 3 (.ite (.v 5) (.c 0) (.c 1))), (.db 6 (.not (.v 3))), (.di 4 (.ite (.v 6) (.v 3) (.c (-1)))), (.db 7 (.not (.v 1))), (.di 5 (.ite (.v 7) (.v 4) (.c 1))), (.db 8 (.not (.v 0))), (.di 6 (.ite (.v 8) (.v 5) (.v 2)))] [(.v 6)] [])
def i37 : List (Nat × List Nat × List Nat × List Nat × Bool) := sp0
theorem x37 : AllOk Try.prog (tabF T4) gl (tabS T4) := A4
theorem y37l : LsOk (tabF T4) [] := fun p hp => by cases hp
theorem h37 : HOk Try.prog (tabF T4) gl (hC (mkIs [] i37) (tabS T4)) := hC_ok x37 (by kernel_rfl) (by kernel_rfl) (mkIs_ok y37l)
theorem k37 : fnX Try.prog (hC (mkIs [] i37) (tabS T4)) gl (ctlL Try.f37 gl s37 []) Try.f37 s37 = some S37 := by kernel_rfl
noncomputable def F37 : Fun := S37.run (tabF T4) false
theorem y37 : LoopsOk (tabF T4) (ctlL Try.f37 gl s37 []) := fun p hp => by cases hp
theorem z37 : (wsEm S37.em (argI s37.args) (argB s37.args) && shOk s37 && noOb S37.em) = true := by kernel_rfl
theorem d37 : Contract Try.prog gl 37 s37 F37 := contract_of h37 Try.func37 y37 k37 z37
theorem c37 : Contract Try.prog gl 37 s37 F37 := d37
theorem call37 : ∀ args w, (callFunc 37 args).run Try.prog w = .ok (.enter 37 args) w := callable_of Try.func37 (by kernel_rfl) (by kernel_rfl)
noncomputable def e37 : Nat × Sum × Fun := (37, withInl s37 S37, F37)
noncomputable def T5 : List (Nat × Sum × Fun) := e37 :: T4
theorem A5 : AllOk Try.prog (tabF T5) gl (tabS T5) := AllOk.cons (s := e37.2.1) c37 call37 (fun S h => by cases h; exact ⟨rfl, fun _ _ => rfl⟩) A4
/-! seepage/cells.Tidy$2 -/
def s36 : Sum := { args := [(.val true [(.int .i64), (.int .i64)]), (.val true [(.int .i64), (.int .i64)])], tup := false, res := [(false, [(.int .i64)])], pre := false }
def S36 : Smry := (.mk [(.db 0 (.cm .neq (.v 0) (.v 0))), (.db 1 (.cm .neq (.v 2) (.v 2))), (.db 2 (.not (.v 1))), (.di 4 (.ite (.v 2) (.c (-1)) (.c 0))), (.db 3 (.cm .lss (.v 0) (.v 2))), (.db 4 (.cm .gtr (.v 0) (.v 2))), (.db 5 (.not (.v 4))), (.di 5 (.ite (.v 5) (.c 0) (.c 1))), (.db 6 (.not (.v 3))), (.di 6 (.ite (.v 6) (.v 5) (.c (-1)))), (.db 7 (.not (.v 1))), (.di 7 (.ite (.v 7) (.v 6) (.c 1))), (.db 8 (.not (.v 0))), (.di 8 (.ite (.v 8) (.v 7) (.v 4)))] [(.v 8)] [])
def i36 : List (Nat × List Nat × List Nat × List Nat × Bool) := sp0
theorem x36 : AllOk Try.prog (tabF T5) gl (tabS T5) := A5
theorem y36l : LsOk (tabF T5) [] := fun p hp => by cases hp
theorem h36 : HOk Try.prog (tabF T5) gl (hC (mkIs [] i36) (tabS T5)) := hC_ok x36 (by kernel_rfl) (by kernel_rfl) (mkIs_ok y36l)
theorem k36 : fnX Try.prog (hC (mkIs [] i36) (tabS T5)) gl (ctlL Try.f36 gl s36 []) Try.f36 s36 = some S36 := by kernel_rfl
noncomputable def F36 : Fun := S36.run (tabF T5) false
theorem y36 : LoopsOk (tabF T5) (ctlL Try.f36 gl s36 []) := fun p hp => by cases hp
theorem z36 : (wsEm S36.em (argI s36.args) (argB s36.args) && shOk s36 && noOb S36.em) = true := by kernel_rfl
theorem d36 : Contract Try.prog gl 36 s36 F36 := contract_of h36 Try.func36 y36 k36 z36
theorem c36 : Contract Try.prog gl 36 s36 F36 := d36
theorem call36 : ∀ args w, (callFunc 36 args).run Try.prog w = .ok (.enter 36 args) w := callable_of Try.func36 (by kernel_rfl) (by kernel_rfl)
noncomputable def e36 : Nat × Sum × Fun := (36, withInl s36 S36, F36)
noncomputable def T6 : List (Nat × Sum × Fun) := e36 :: T5
theorem A6 : AllOk Try.prog (tabF T6) gl (tabS T6) := AllOk.cons (s := e36.2.1) c36 call36 (fun S h => by cases h; exact ⟨rfl, fun _ _ => rfl⟩) A5
/-! seepage/cells.Tidy -/
def s10 : Sum := { args := [(.val false [(.sl [(.int .i64), (.int .i64)])])], tup := true, res := [(false, [(.sl [(.int .i64), (.int .i64)])]), (false, [(.int .i64)])], pre := true }
def S10 : Smry := (.mk [(.call 101001 [(.v 0), (.v 1), (.c 0)] [] 2 1 0 3), (.ob [] (.v 0)), (.di 3 (.ite (.v 2) (.c (-1)) (.v 2))), (.db 3 (.cm .geq (.v 3) (.c 0))), (.call 101002 [(.v 0), (.v 1), (.c 0), (.c 0), (.c 0)] [] 4 2 4 2), (.ob [((.v 3), false)] (.v 4)), (.db 6 (.cm .leq (.v 5) (.c 2305843009213693952))), (.ob [((.v 3), false)] (.v 6)), (.call 49 [(.v 4), (.v 5)] [] 6 1 7 0), (.call 101000 [(.v 5), (.v 6), (.c 0), (.c 0), (.c 0)] [] 7 2 7 2), (.ob [((.v 3), false)] (.v 7)), (.db 9 (.not (.v 3))), (.di 9 (.ite (.v 9) (.v 7) (.c 0))), (.di 10 (.ite (.v 9) (.v 8) (.c 0))), (.di 11 (.ite (.v 9) (.c 0) (.c 1)))] [(.v 9), (.v 10), (.v 11)] [])
def L101000 : LAnn := { id := 101000, ga := [5, 6], gb := [], hv := [16], dr := [1, 6, 9, 11, 12, 13, 18, 19, 20, 21, 22, 23, 24, 25, 26, 27, 28, 29, 30, 31, 32, 33, 34, 36, 37, 38, 39, 40, 41, 42, 43, 44, 45, 46, 47, 48, 49, 50, 51, 52, 53, 54, 55], hb := [18], db := [], xs := [2, 3], xb := [18], nI := 5, nB := 0, S := (.mk [(.db 0 (.cm .lss (.v 2) (.v 0))), (.db 1 (.cm .geq (.v 2) (.c 0))), (.ob [((.v 0), true)] (.v 1)), (.db 2 (.cm .lss (.v 2) (.v 0))), (.ob [((.v 0), true)] (.v 2)), (.di 5 (.get (.v 1) (.v 2) 2 0)), (.di 6 (.get (.v 1) (.v 2) 2 1)), (.db 3 (.cm .gtr (.v 4) (.c 0))), (.di 7 (.ar .sub .i64 (.v 4) (.c 1))), (.db 4 (.cm .geq (.v 7) (.c 0))), (.ob [((.v 0), true), ((.v 3), true)] (.v 4)), (.db 5 (.cm .lss (.v 7) (.v 4))), (.ob [((.v 0), true), ((.v 3), true)] (.v 5)), (.di 8 (.get (.v 3) (.v 7) 2 1)), (.di 9 (.ar .add .i64 (.v 8) (.c 1))), (.db 6 (.cm .leq (.v 5) (.v 9))), (.db 7 (.and (.v 3) (.v 6))), (.di 10 (.ar .sub .i64 (.v 4) (.c 1))), (.di 11 (.ar .sub .i64 (.v 4) (.c 1))), (.db 8 (.cm .geq (.v 11) (.c 0))), (.ob [((.v 0), true), ((.v 7), true)] (.v 8)), (.db 9 (.cm .lss (.v 11) (.v 4))), (.ob [((.v 0), true), ((.v 7), true)] (.v 9)), (.di 12 (.get (.v 3) (.v 11) 2 1)), (.di 13 (.mx (.v 12) (.v 6))), (.db 10 (.cm .geq (.v 10) (.c 0))), (.ob [((.v 0), true), ((.v 7), true)] (.v 10)), (.db 11 (.cm .lss (.v 10) (.v 4))), (.ob [((.v 0), true), ((.v 7), true)] (.v 11)), (.di 14 (.setq (.v 3) (.v 10) 2 1 (.v 13))), (.di 15 (.lst [(.v 5), (.v 6)])), (.db 12 (.cm .leq (.v 4) (.c 4398046511104))), (.ob [((.v 0), true), ((.v 7), false)] (.v 12)), (.di 16 (.cat (.v 3) (.v 15))), (.di 17 (.ar .add .i64 (.v 4) (.c 1))), (.di 18 (.ite (.v 7) (.v 14) (.v 16))), (.di 19 (.ite (.v 7) (.v 4) (.v 17))), (.di 20 (.ar .add .i64 (.v 2) (.c 1))), (.db 13 (.not (.v 0)))] [(.v 0), (.v 1), (.v 20), (.v 18), (.v 19), (.v 3), (.v 4)] [(.v 0), (.v 13)]), sd := [(1000005, 0, true, [.int .i64, .int .i64])] }
def L101001 : LAnn := { id := 101001, ga := [0, 1], gb := [], hv := [8], dr := [2, 3, 6, 10, 11, 12, 13, 14, 15, 17, 18], hb := [], db := [], xs := [4], xb := [], nI := 3, nB := 0, S := (.mk [(.db 0 (.cm .lss (.v 2) (.v 1))), (.db 1 (.cm .geq (.v 2) (.c 0))), (.ob [((.v 0), true)] (.v 1)), (.db 2 (.cm .lss (.v 2) (.v 1))), (.ob [((.v 0), true)] (.v 2)), (.di 3 (.get (.v 0) (.v 2) 2 0)), (.di 4 (.get (.v 0) (.v 2) 2 1)), (.db 3 (.cm .geq (.v 3) (.c 0))), (.db 4 (.cm .geq (.v 4) (.v 3))), (.db 5 (.and (.v 3) (.v 4))), (.db 6 (.cm .lss (.v 4) (.c 65536))), (.db 7 (.and (.v 5) (.v 6))), (.db 8 (.not (.v 7))), (.di 5 (.ar .add .i64 (.v 2) (.c 1))), (.db 9 (.not (.v 8))), (.db 10 (.not (.v 8))), (.db 11 (.and (.v 0) (.v 10))), (.db 12 (.and (.v 0) (.v 8))), (.db 13 (.not (.v 0)))] [(.v 0), (.v 1), (.v 5), (.v 2)] [(.v 11), (.v 12), (.v 13)]) }
def L101002 : LAnn := { id := 101002, ga := [0, 1], gb := [], hv := [7], dr := [2, 3, 9, 10, 11, 12, 13, 15], hb := [12], db := [], xs := [], xb := [12], nI := 5, nB := 0, S := (.mk [(.db 0 (.cm .lss (.v 2) (.v 1))), (.db 1 (.cm .geq (.v 2) (.c 0))), (.ob [((.v 0), true)] (.v 1)), (.db 2 (.cm .lss (.v 2) (.v 1))), (.ob [((.v 0), true)] (.v 2)), (.di 5 (.get (.v 0) (.v 2) 2 0)), (.di 6 (.get (.v 0) (.v 2) 2 1)), (.di 7 (.lst [(.v 5), (.v 6)])), (.db 3 (.cm .leq (.v 4) (.c 4398046511104))), (.ob [((.v 0), true)] (.v 3)), (.di 8 (.cat (.v 3) (.v 7))), (.di 9 (.ar .add .i64 (.v 4) (.c 1))), (.di 10 (.ar .add .i64 (.v 2) (.c 1))), (.db 4 (.not (.v 0)))] [(.v 0), (.v 1), (.v 10), (.v 8), (.v 9), (.v 3), (.v 4)] [(.v 0), (.v 4)]), sd := [(10, 0, true, [.int .i64, .int .i64])] }
def l10 : List (Nat × LAnn) := [(7, L101000), (3, L101001), (2, L101002)]
def i10 : List (Nat × List Nat × List Nat × List Nat × Bool) := [(31, [], [], [], false), (47, [1], [], [], false), (32, [], [], [], false), (39, [], [], [], false), (34, [], [], [], false), (35, [], [], [], false), (50, [], [], [], false), (48, [], [], [], false), (54, [], [], [2], true), (44, [], [], [], false), (42, [], [], [], false), (52, [], [], [], false), (53, [], [], [], false), (45, [], [], [], false)]
theorem x10 : AllOk Try.prog (lpF (l10.map (·.2)) (tabF T6)) gl (tabS T6) := (AllOk.loops (l := l10.map (·.2)) A6 (by kernel_rfl))
theorem y10l : LsOk (lpF (l10.map (·.2)) (tabF T6)) l10 := LoopsOk.of (fn := Try.f10) (gl := gl) (s := s10) (l := l10) (by kernel_rfl)
theorem h10 : HOk Try.prog (lpF (l10.map (·.2)) (tabF T6)) gl (hC (mkIs l10 i10) (tabS T6)) := hC_ok x10 (by kernel_rfl) (by kernel_rfl) (mkIs_ok y10l)
theorem k10 : fnX Try.prog (hC (mkIs l10 i10) (tabS T6)) gl (ctlL Try.f10 gl s10 (sel l10 [0])) Try.f10 s10 = some S10 := by kernel_rfl
noncomputable def F10 : Fun := S10.run (lpF (l10.map (·.2)) (tabF T6)) true
theorem y10 : LoopsOk (lpF (l10.map (·.2)) (tabF T6)) (ctlL Try.f10 gl s10 (sel l10 [0])) := fun p hp => y10l p (sel_mem hp)
theorem z10 : (wsEm S10.em (argI s10.args) (argB s10.args) && shOk s10 && s10.pre) = true := by kernel_rfl
theorem d10 : Contract Try.prog gl 10 s10 F10 := contract_pre h10 Try.func10 y10 k10 z10
theorem c10 : Contract Try.prog gl 10 s10 F10 := d10
theorem call10 : ∀ args w, (callFunc 10 args).run Try.prog w = .ok (.enter 10 args) w := callable_of Try.func10 (by kernel_rfl) (by kernel_rfl)
noncomputable def e10 : Nat × Sum × Fun := (10, s10, F10)
noncomputable def T7 : List (Nat × Sum × Fun) := e10 :: T6
theorem A7 : AllOk Try.prog (tabF T7) gl (tabS T7) := AllOk.cons (s := e10.2.1) c10 call10 (fun S h => by cases h) A6
/-! seepage/cells.Load -/
def s20 : Sum := { args := [(.val false [(.sl [(.int .u8), .bool])]), (.val false [(.int .i64)])], tup := true, res := [(true, [(.int .u8), .bool]), (false, [(.int .i64)])], pre := false }
def S20 : Smry := (.mk [(.db 0 (.cm .lss (.v 2) (.c 0))), (.db 1 (.cm .geq (.v 2) (.v 1))), (.db 2 (.or (.v 0) (.v 1))), (.db 3 (.cm .geq (.v 2) (.c 0))), (.ob [((.v 2), false)] (.v 3)), (.db 4 (.cm .lss (.v 2) (.v 1))), (.ob [((.v 2), false)] (.v 4)), (.di 3 (.get (.v 0) (.v 2) 2 0)), (.db 5 (.getb (.v 0) (.v 2) 2 1)), (.db 6 (.not (.v 2))), (.di 4 (.ite (.v 6) (.c 0) (.c 2))), (.di 5 (.ite (.v 6) (.v 3) (.c 0))), (.db 7 (.and (.v 6) (.v 5)))] [(.v 5), (.v 4)] [(.v 7)])
def i20 : List (Nat × List Nat × List Nat × List Nat × Bool) := sp0
theorem x20 : AllOk Try.prog (tabF T7) gl (tabS T7) := A7
theorem y20l : LsOk (tabF T7) [] := fun p hp => by cases hp
theorem h20 : HOk Try.prog (tabF T7) gl (hC (mkIs [] i20) (tabS T7)) := hC_ok x20 (by kernel_rfl) (by kernel_rfl) (mkIs_ok y20l)
theorem k20 : fnX Try.prog (hC (mkIs [] i20) (tabS T7)) gl (ctlL Try.f20 gl s20 []) Try.f20 s20 = some S20 := by kernel_rfl
noncomputable def F20 : Fun := S20.run (tabF T7) false
theorem y20 : LoopsOk (tabF T7) (ctlL Try.f20 gl s20 []) := fun p hp => by cases hp
theorem z20 : (wsEm S20.em (argI s20.args) (argB s20.args) && shOk s20 && selfOb S20.em) = true := by kernel_rfl
theorem d20 : Contract Try.prog gl 20 s20 F20 := contract_self h20 Try.func20 y20 k20 z20 (EAll.nil rfl)
theorem c20 : Contract Try.prog gl 20 s20 F20 := d20
theorem call20 : ∀ args w, (callFunc 20 args).run Try.prog w = .ok (.enter 20 args) w := callable_of Try.func20 (by kernel_rfl) (by kernel_rfl)
noncomputable def e20 : Nat × Sum × Fun := (20, withInl s20 S20, F20)
noncomputable def T8 : List (Nat × Sum × Fun) := e20 :: T7
theorem A8 : AllOk Try.prog (tabF T8) gl (tabS T8) := AllOk.cons (s := e20.2.1) c20 call20 (fun S h => by cases h; exact ⟨rfl, fun _ _ => rfl⟩) A7
/-! seepage/seepageref02.Same -/
def s22 : Sum := { args := [(.val false [(.sl [(.int .u8), .bool])]), (.val false [(.sl [(.int .u8), .bool])])], tup := false, res := [(false, [.bool])], pre := true }
def S22 : Smry := (.mk [(.db 0 (.cm .neq (.v 1) (.v 3))), (.call 102200 [(.v 0), (.v 1), (.v 2), (.v 3), (.c 0)] [] 4 0 1 3), (.ob [((.v 0), false)] (.v 1)), (.db 4 (.not (.v 0))), (.db 5 (.and (.v 4) (.v 3)))] [] [(.v 5)])
def L102200 : LAnn := { id := 102200, ga := [0, 1, 2, 3], gb := [], hv := [5], dr := [2, 3, 6, 7, 8, 9, 11, 12, 13, 15, 16, 17, 18, 19, 20, 21, 22, 23, 24], hb := [], db := [], xs := [4], xb := [], nI := 5, nB := 0, S := (.mk [(.db 0 (.cm .lss (.v 4) (.v 1))), (.db 1 (.cm .geq (.v 4) (.c 0))), (.ob [((.v 0), true)] (.v 1)), (.db 2 (.cm .lss (.v 4) (.v 1))), (.ob [((.v 0), true)] (.v 2)), (.di 5 (.get (.v 0) (.v 4) 2 0)), (.db 3 (.getb (.v 0) (.v 4) 2 1)), (.db 4 (.cm .geq (.v 4) (.c 0))), (.ob [((.v 0), true)] (.v 4)), (.db 5 (.cm .lss (.v 4) (.v 3))), (.ob [((.v 0), true)] (.v 5)), (.di 6 (.get (.v 2) (.v 4) 2 0)), (.db 6 (.getb (.v 2) (.v 4) 2 1)), (.db 7 (.cm .eql (.v 5) (.v 6))), (.db 8 (.eqb (.v 3) (.v 6))), (.db 9 (.and (.v 7) (.v 8))), (.db 10 (.not (.v 9))), (.di 7 (.ar .add .i64 (.v 4) (.c 1))), (.db 11 (.not (.v 10))), (.db 12 (.not (.v 10))), (.db 13 (.and (.v 0) (.v 12))), (.db 14 (.and (.v 0) (.v 10))), (.db 15 (.not (.v 0)))] [(.v 0), (.v 1), (.v 2), (.v 3), (.v 7)] [(.v 13), (.v 14), (.v 15)]) }
def l22 : List (Nat × LAnn) := [(5, L102200)]
def i22 : List (Nat × List Nat × List Nat × List Nat × Bool) := [(31, [], [], [], false), (47, [], [], [], false), (32, [], [], [], false), (39, [], [], [], false), (34, [], [], [], false), (35, [], [], [], false), (50, [], [], [], false), (48, [], [], [], false), (54, [], [], [], true), (44, [], [], [], false), (42, [], [], [], false), (52, [], [], [], false), (53, [], [], [], false), (45, [], [], [], false)]
theorem x22 : AllOk Try.prog (lpF (l22.map (·.2)) (tabF T8)) gl (tabS T8) := (AllOk.loops (l := l22.map (·.2)) A8 (by kernel_rfl))
theorem y22l : LsOk (lpF (l22.map (·.2)) (tabF T8)) l22 := LoopsOk.of (fn := Try.f22) (gl := gl) (s := s22) (l := l22) (by kernel_rfl)
theorem h22 : HOk Try.prog (lpF (l22.map (·.2)) (tabF T8)) gl (hC (mkIs l22 i22) (tabS T8)) := hC_ok x22 (by kernel_rfl) (by kernel_rfl) (mkIs_ok y22l)
theorem k22 : fnX Try.prog (hC (mkIs l22 i22) (tabS T8)) gl (ctlL Try.f22 gl s22 (sel l22 [0])) Try.f22 s22 = some S22 := by kernel_rfl
noncomputable def F22 : Fun := S22.run (lpF (l22.map (·.2)) (tabF T8)) true
theorem y22 : LoopsOk (lpF (l22.map (·.2)) (tabF T8)) (ctlL Try.f22 gl s22 (sel l22 [0])) := fun p hp => y22l p (sel_mem hp)
theorem z22 : (wsEm S22.em (argI s22.args) (argB s22.args) && shOk s22 && s22.pre) = true := by kernel_rfl
theorem d22 : Contract Try.prog gl 22 s22 F22 := contract_pre h22 Try.func22 y22 k22 z22
theorem c22 : Contract Try.prog gl 22 s22 F22 := d22
theorem call22 : ∀ args w, (callFunc 22 args).run Try.prog w = .ok (.enter 22 args) w := callable_of Try.func22 (by kernel_rfl) (by kernel_rfl)
noncomputable def e22 : Nat × Sum × Fun := (22, s22, F22)
noncomputable def T9 : List (Nat × Sum × Fun) := e22 :: T8
theorem A9 : AllOk Try.prog (tabF T9) gl (tabS T9) := AllOk.cons (s := e22.2.1) c22 call22 (fun S h => by cases h) A8
/-! seepage/seepageref02.SameRanges -/
def s17 : Sum := { args := [(.val false [(.sl [(.int .i64), (.int .i64)])]), (.val false [(.sl [(.int .i64), (.int .i64)])])], tup := false, res := [(false, [.bool])], pre := true }
def S17 : Smry := (.mk [(.db 0 (.cm .neq (.v 1) (.v 3))), (.call 101700 [(.v 0), (.v 1), (.v 2), (.v 3), (.c 0)] [] 4 0 1 3), (.ob [((.v 0), false)] (.v 1)), (.db 4 (.not (.v 0))), (.db 5 (.and (.v 4) (.v 3)))] [] [(.v 5)])
def L101700 : LAnn := { id := 101700, ga := [0, 1, 2, 3], gb := [], hv := [5], dr := [2, 3, 6, 7, 8, 9, 11, 12, 13, 15, 16, 17, 18, 19, 20, 21, 22, 23, 24], hb := [], db := [], xs := [4], xb := [], nI := 5, nB := 0, S := (.mk [(.db 0 (.cm .lss (.v 4) (.v 1))), (.db 1 (.cm .geq (.v 4) (.c 0))), (.ob [((.v 0), true)] (.v 1)), (.db 2 (.cm .lss (.v 4) (.v 1))), (.ob [((.v 0), true)] (.v 2)), (.di 5 (.get (.v 0) (.v 4) 2 0)), (.di 6 (.get (.v 0) (.v 4) 2 1)), (.db 3 (.cm .geq (.v 4) (.c 0))), (.ob [((.v 0), true)] (.v 3)), (.db 4 (.cm .lss (.v 4) (.v 3))), (.ob [((.v 0), true)] (.v 4)), (.di 7 (.get (.v 2) (.v 4) 2 0)), (.di 8 (.get (.v 2) (.v 4) 2 1)), (.db 5 (.cm .eql (.v 5) (.v 7))), (.db 6 (.cm .eql (.v 6) (.v 8))), (.db 7 (.and (.v 5) (.v 6))), (.db 8 (.not (.v 7))), (.di 9 (.ar .add .i64 (.v 4) (.c 1))), (.db 9 (.not (.v 8))), (.db 10 (.not (.v 8))), (.db 11 (.and (.v 0) (.v 10))), (.db 12 (.and (.v 0) (.v 8))), (.db 13 (.not (.v 0)))] [(.v 0), (.v 1), (.v 2), (.v 3), (.v 9)] [(.v 11), (.v 12), (.v 13)]) }
def l17 : List (Nat × LAnn) := [(5, L101700)]
def i17 : List (Nat × List Nat × List Nat × List Nat × Bool) := [(31, [], [], [], false), (47, [], [], [], false), (32, [], [], [], false), (39, [], [], [], false), (34, [], [], [], false), (35, [], [], [], false), (50, [], [], [], false), (48, [], [], [], false), (54, [], [], [], true), (44, [], [], [], false), (42, [], [], [], false), (52, [], [], [], false), (53, [], [], [], false), (45, [], [], [], false)]
theorem x17 : AllOk Try.prog (lpF (l17.map (·.2)) (tabF T9)) gl (tabS T9) := (AllOk.loops (l := l17.map (·.2)) A9 (by kernel_rfl))
theorem y17l : LsOk (lpF (l17.map (·.2)) (tabF T9)) l17 := LoopsOk.of (fn := Try.f17) (gl := gl) (s := s17) (l := l17) (by kernel_rfl)
theorem h17 : HOk Try.prog (lpF (l17.map (·.2)) (tabF T9)) gl (hC (mkIs l17 i17) (tabS T9)) := hC_ok x17 (by kernel_rfl) (by kernel_rfl) (mkIs_ok y17l)
theorem k17 : fnX Try.prog (hC (mkIs l17 i17) (tabS T9)) gl (ctlL Try.f17 gl s17 (sel l17 [0])) Try.f17 s17 = some S17 := by kernel_rfl
noncomputable def F17 : Fun := S17.run (lpF (l17.map (·.2)) (tabF T9)) true
theorem y17 : LoopsOk (lpF (l17.map (·.2)) (tabF T9)) (ctlL Try.f17 gl s17 (sel l17 [0])) := fun p hp => y17l p (sel_mem hp)
theorem z17 : (wsEm S17.em (argI s17.args) (argB s17.args) && shOk s17 && s17.pre) = true := by kernel_rfl
theorem d17 : Contract Try.prog gl 17 s17 F17 := contract_pre h17 Try.func17 y17 k17 z17
theorem c17 : Contract Try.prog gl 17 s17 F17 := d17
theorem call17 : ∀ args w, (callFunc 17 args).run Try.prog w = .ok (.enter 17 args) w := callable_of Try.func17 (by kernel_rfl) (by kernel_rfl)
noncomputable def e17 : Nat × Sum × Fun := (17, s17, F17)
noncomputable def T10 : List (Nat × Sum × Fun) := e17 :: T9
theorem A10 : AllOk Try.prog (tabF T10) gl (tabS T10) := AllOk.cons (s := e17.2.1) c17 call17 (fun S h => by cases h) A9
/-! seepage/seepagelaw02.awake -/
def s16 : Sum := { args := [], tup := false, res := [(false, [.bool])], pre := true }
def S16 : Smry := (.mk [(.call 23 [(.c 3), (.c 1024), (.c 36), (.c 1)] [] 0 3 0 1), (.ob [] (.v 0)), (.call 10 [(.c 543162624), (.c 2)] [] 3 3 1 1), (.ob [] (.v 1)), (.db 2 (.cm .geq (.c 3) (.v 1))), (.db 3 (.cm .lss (.c 3) (.v 1))), (.di 6 (.get (.v 0) (.c 3) 2 0)), (.db 4 (.getb (.v 0) (.c 3) 2 1)), (.db 5 (.not (.v 2))), (.di 7 (.ite (.v 5) (.c 0) (.c 2))), (.di 8 (.ite (.v 5) (.v 6) (.c 0))), (.db 6 (.and (.v 5) (.v 4))), (.db 7 (.cm .eql (.v 1) (.c 3))), (.db 8 (.cm .eql (.v 2) (.c 0))), (.db 9 (.and (.v 7) (.v 8))), (.call 22 [(.v 0), (.v 1), (.c 236544), (.c 3)] [] 9 0 10 2), (.ob [((.v 9), true)] (.v 10)), (.db 12 (.and (.v 9) (.v 11))), (.db 13 (.cm .eql (.v 5) (.c 0))), (.db 14 (.and (.v 12) (.v 13))), (.call 17 [(.v 3), (.v 4), (.c 8193), (.c 1)] [] 9 0 15 2), (.ob [((.v 14), true)] (.v 15)), (.db 17 (.and (.v 14) (.v 16))), (.db 18 (.cm .eql (.v 7) (.c 2))), (.db 19 (.and (.v 17) (.v 18)))] [] [(.v 19)])
def i16 : List (Nat × List Nat × List Nat × List Nat × Bool) := sp0
theorem x16 : AllOk Try.prog (tabF T10) gl (tabS T10) := A10
theorem y16l : LsOk (tabF T10) [] := fun p hp => by cases hp
theorem h16 : HOk Try.prog (tabF T10) gl (hC (mkIs [] i16) (tabS T10)) := hC_ok x16 (by kernel_rfl) (by kernel_rfl) (mkIs_ok y16l)
theorem k16 : fnX Try.prog (hC (mkIs [] i16) (tabS T10)) gl (ctlL Try.f16 gl s16 []) Try.f16 s16 = some S16 := by kernel_rfl
noncomputable def F16 : Fun := S16.run (tabF T10) true
theorem y16 : LoopsOk (tabF T10) (ctlL Try.f16 gl s16 []) := fun p hp => by cases hp
theorem z16 : (wsEm S16.em (argI s16.args) (argB s16.args) && shOk s16 && s16.pre) = true := by kernel_rfl
theorem d16 : Contract Try.prog gl 16 s16 F16 := contract_pre h16 Try.func16 y16 k16 z16
theorem c16 : Contract Try.prog gl 16 s16 F16 := d16
theorem call16 : ∀ args w, (callFunc 16 args).run Try.prog w = .ok (.enter 16 args) w := callable_of Try.func16 (by kernel_rfl) (by kernel_rfl)
noncomputable def e16 : Nat × Sum × Fun := (16, s16, F16)
noncomputable def T11 : List (Nat × Sum × Fun) := e16 :: T10
theorem A11 : AllOk Try.prog (tabF T11) gl (tabS T11) := AllOk.cons (s := e16.2.1) c16 call16 (fun S h => by cases h) A10
/-! seepage/seepagelaw02.Ranges -/
def s9 : Sum := { args := [(.val false [(.sl [(.int .i64), (.int .i64)])])], tup := false, res := [(false, [(.sl [(.int .i64), (.int .i64)])])], pre := true }
def S9 : Smry := (.mk [(.db 0 (.cm .gtr (.v 1) (.c 20))), (.db 1 (.cm .leq (.c 20) (.v 1))), (.ob [((.v 0), true)] (.v 1)), (.di 2 (.sub (.v 0) (.c 0) (.c 20) 2)), (.db 2 (.not (.v 0))), (.di 3 (.ite (.v 2) (.v 0) (.v 2))), (.di 4 (.ite (.v 2) (.v 1) (.c 20)))] [(.v 3), (.v 4)] [])
def i9 : List (Nat × List Nat × List Nat × List Nat × Bool) := sp0
theorem x9 : AllOk Try.prog (tabF T11) gl (tabS T11) := A11
theorem y9l : LsOk (tabF T11) [] := fun p hp => by cases hp
theorem h9 : HOk Try.prog (tabF T11) gl (hC (mkIs [] i9) (tabS T11)) := hC_ok x9 (by kernel_rfl) (by kernel_rfl) (mkIs_ok y9l)
theorem k9 : fnX Try.prog (hC (mkIs [] i9) (tabS T11)) gl (ctlL Try.f9 gl s9 []) Try.f9 s9 = some S9 := by kernel_rfl
noncomputable def F9 : Fun := S9.run (tabF T11) true
theorem y9 : LoopsOk (tabF T11) (ctlL Try.f9 gl s9 []) := fun p hp => by cases hp
theorem z9 : (wsEm S9.em (argI s9.args) (argB s9.args) && shOk s9 && s9.pre) = true := by kernel_rfl
theorem d9 : Contract Try.prog gl 9 s9 F9 := contract_pre h9 Try.func9 y9 k9 z9
theorem c9 : Contract Try.prog gl 9 s9 F9 := d9
theorem call9 : ∀ args w, (callFunc 9 args).run Try.prog w = .ok (.enter 9 args) w := callable_of Try.func9 (by kernel_rfl) (by kernel_rfl)
noncomputable def e9 : Nat × Sum × Fun := (9, s9, F9)
noncomputable def T12 : List (Nat × Sum × Fun) := e9 :: T11
theorem A12 : AllOk Try.prog (tabF T12) gl (tabS T12) := AllOk.cons (s := e9.2.1) c9 call9 (fun S h => by cases h) A11
/-! seepage/seepageref02.whole -/
def s38 : Sum := { args := [(.val true [(.int .i64), (.int .i64)])], tup := false, res := [(false, [.bool])], pre := false }
def S38 : Smry := (.mk [(.db 0 (.cm .leq (.c 0) (.v 0))), (.db 1 (.cm .leq (.v 0) (.v 1))), (.db 2 (.and (.v 0) (.v 1))), (.db 3 (.cm .leq (.v 1) (.c 65535))), (.db 4 (.and (.v 2) (.v 3)))] [] [(.v 4)])
def i38 : List (Nat × List Nat × List Nat × List Nat × Bool) := sp0
theorem x38 : AllOk Try.prog (tabF T12) gl (tabS T12) := A12
theorem y38l : LsOk (tabF T12) [] := fun p hp => by cases hp
theorem h38 : HOk Try.prog (tabF T12) gl (hC (mkIs [] i38) (tabS T12)) := hC_ok x38 (by kernel_rfl) (by kernel_rfl) (mkIs_ok y38l)
theorem k38 : fnX Try.prog (hC (mkIs [] i38) (tabS T12)) gl (ctlL Try.f38 gl s38 []) Try.f38 s38 = some S38 := by kernel_rfl
noncomputable def F38 : Fun := S38.run (tabF T12) false
theorem y38 : LoopsOk (tabF T12) (ctlL Try.f38 gl s38 []) := fun p hp => by cases hp
theorem z38 : (wsEm S38.em (argI s38.args) (argB s38.args) && shOk s38 && noOb S38.em) = true := by kernel_rfl
theorem d38 : Contract Try.prog gl 38 s38 F38 := contract_of h38 Try.func38 y38 k38 z38
theorem c38 : Contract Try.prog gl 38 s38 F38 := d38
theorem call38 : ∀ args w, (callFunc 38 args).run Try.prog w = .ok (.enter 38 args) w := callable_of Try.func38 (by kernel_rfl) (by kernel_rfl)
noncomputable def e38 : Nat × Sum × Fun := (38, withInl s38 S38, F38)
noncomputable def T13 : List (Nat × Sum × Fun) := e38 :: T12
theorem A13 : AllOk Try.prog (tabF T13) gl (tabS T13) := AllOk.cons (s := e38.2.1) c38 call38 (fun S h => by cases h; exact ⟨rfl, fun _ _ => rfl⟩) A12
/-! seepage/seepageref02.May -/
def s12 : Sum := { args := [(.val false [(.sl [(.int .i64), (.int .i64)])])], tup := false, res := [(false, [.bool])], pre := true }
def S12 : Smry := (.mk [(.call 101200 [(.v 0), (.v 1), (.c 0)] [] 2 0 0 3), (.ob [] (.v 0))] [] [(.v 2)])
def L101200 : LAnn := { id := 101200, ga := [0, 1], gb := [], hv := [3], dr := [1, 4, 5, 6, 8, 9, 10, 11, 12, 13, 14, 15, 16, 17, 18, 19, 20, 21, 22, 23, 24, 25, 26, 27, 28, 29, 30, 31, 32, 33], hb := [], db := [], xs := [2], xb := [], nI := 3, nB := 0, S := (.mk [(.db 0 (.cm .lss (.v 2) (.v 1))), (.db 1 (.cm .geq (.v 2) (.c 0))), (.ob [((.v 0), true)] (.v 1)), (.db 2 (.cm .lss (.v 2) (.v 1))), (.ob [((.v 0), true)] (.v 2)), (.di 3 (.get (.v 0) (.v 2) 2 0)), (.di 4 (.get (.v 0) (.v 2) 2 1)), (.db 3 (.cm .leq (.c 0) (.v 3))), (.db 4 (.cm .leq (.v 3) (.v 4))), (.db 5 (.and (.v 3) (.v 4))), (.db 6 (.cm .leq (.v 4) (.c 65535))), (.db 7 (.and (.v 5) (.v 6))), (.db 8 (.not (.v 7))), (.db 9 (.cm .gtr (.v 2) (.c 0))), (.db 10 (.cm .geq (.v 2) (.c 0))), (.ob [((.v 0), true), ((.v 8), false), ((.v 9), true)] (.v 10)), (.db 11 (.cm .lss (.v 2) (.v 1))), (.ob [((.v 0), true), ((.v 8), false), ((.v 9), true)] (.v 11)), (.di 5 (.get (.v 0) (.v 2) 2 0)), (.di 6 (.ar .sub .i64 (.v 2) (.c 1))), (.db 12 (.cm .geq (.v 6) (.c 0))), (.ob [((.v 0), true), ((.v 8), false), ((.v 9), true)] (.v 12)), (.db 13 (.cm .lss (.v 6) (.v 1))), (.ob [((.v 0), true), ((.v 8), false), ((.v 9), true)] (.v 13)), (.di 7 (.get (.v 0) (.v 6) 2 1)), (.di 8 (.ar .sub .i64 (.v 5) (.v 7))), (.db 14 (.cm .lss (.v 8) (.c 2))), (.db 15 (.and (.v 9) (.v 14))), (.db 16 (.or (.v 8) (.v 15))), (.di 9 (.ar .add .i64 (.v 2) (.c 1))), (.db 17 (.not (.v 16))), (.db 18 (.not (.v 16))), (.db 19 (.and (.v 0) (.v 18))), (.db 20 (.and (.v 0) (.v 16))), (.db 21 (.not (.v 0)))] [(.v 0), (.v 1), (.v 9)] [(.v 19), (.v 20), (.v 21)]) }
def l12 : List (Nat × LAnn) := [(3, L101200)]
def i12 : List (Nat × List Nat × List Nat × List Nat × Bool) := [(31, [], [], [], false), (47, [], [], [], false), (32, [], [], [], false), (39, [], [], [], false), (34, [], [], [], false), (35, [], [], [], false), (50, [], [], [], false), (48, [], [], [], false), (54, [], [], [], true), (44, [], [], [], false), (42, [], [], [], false), (52, [], [], [], false), (53, [], [], [], false), (45, [], [], [], false)]
theorem x12 : AllOk Try.prog (lpF (l12.map (·.2)) (tabF T13)) gl (tabS T13) := (AllOk.loops (l := l12.map (·.2)) A13 (by kernel_rfl))
theorem y12l : LsOk (lpF (l12.map (·.2)) (tabF T13)) l12 := LoopsOk.of (fn := Try.f12) (gl := gl) (s := s12) (l := l12) (by kernel_rfl)
theorem h12 : HOk Try.prog (lpF (l12.map (·.2)) (tabF T13)) gl (hC (mkIs l12 i12) (tabS T13)) := hC_ok x12 (by kernel_rfl) (by kernel_rfl) (mkIs_ok y12l)
theorem k12 : fnX Try.prog (hC (mkIs l12 i12) (tabS T13)) gl (ctlL Try.f12 gl s12 (sel l12 [0])) Try.f12 s12 = some S12 := by kernel_rfl
noncomputable def F12 : Fun := S12.run (lpF (l12.map (·.2)) (tabF T13)) true
theorem y12 : LoopsOk (lpF (l12.map (·.2)) (tabF T13)) (ctlL Try.f12 gl s12 (sel l12 [0])) := fun p hp => y12l p (sel_mem hp)
theorem z12 : (wsEm S12.em (argI s12.args) (argB s12.args) && shOk s12 && s12.pre) = true := by kernel_rfl
theorem d12 : Contract Try.prog gl 12 s12 F12 := contract_pre h12 Try.func12 y12 k12 z12
theorem c12 : Contract Try.prog gl 12 s12 F12 := d12
theorem call12 : ∀ args w, (callFunc 12 args).run Try.prog w = .ok (.enter 12 args) w := callable_of Try.func12 (by kernel_rfl) (by kernel_rfl)
noncomputable def e12 : Nat × Sum × Fun := (12, s12, F12)
noncomputable def T14 : List (Nat × Sum × Fun) := e12 :: T13
theorem A14 : AllOk Try.prog (tabF T14) gl (tabS T14) := AllOk.cons (s := e12.2.1) c12 call12 (fun S h => by cases h) A13
/-! seepage/cells.In -/
def s13 : Sum := { args := [(.val false [(.sl [(.int .i64), (.int .i64)])]), (.val false [(.int .i64)])], tup := false, res := [(false, [.bool])], pre := true }
def S13 : Smry := (.mk [(.call 101300 [(.v 0), (.v 1), (.v 2), (.c 0)] [] 3 1 0 3), (.ob [] (.v 0)), (.di 4 (.ite (.v 2) (.c (-1)) (.v 3))), (.db 3 (.cm .geq (.v 4) (.c 0)))] [] [(.v 3)])
def L101300 : LAnn := { id := 101300, ga := [0, 1, 2], gb := [], hv := [8], dr := [2, 3, 6, 10, 11, 12, 13, 14, 15, 17, 18], hb := [], db := [], xs := [4], xb := [], nI := 4, nB := 0, S := (.mk [(.db 0 (.cm .lss (.v 3) (.v 1))), (.db 1 (.cm .geq (.v 3) (.c 0))), (.ob [((.v 0), true)] (.v 1)), (.db 2 (.cm .lss (.v 3) (.v 1))), (.ob [((.v 0), true)] (.v 2)), (.di 4 (.get (.v 0) (.v 3) 2 0)), (.di 5 (.get (.v 0) (.v 3) 2 1)), (.db 3 (.cm .geq (.v 2) (.v 4))), (.db 4 (.cm .leq (.v 2) (.v 5))), (.db 5 (.and (.v 3) (.v 4))), (.di 6 (.ar .add .i64 (.v 3) (.c 1))), (.db 6 (.not (.v 5))), (.db 7 (.not (.v 5))), (.db 8 (.and (.v 0) (.v 7))), (.db 9 (.and (.v 0) (.v 5))), (.db 10 (.not (.v 0)))] [(.v 0), (.v 1), (.v 2), (.v 6), (.v 3)] [(.v 8), (.v 9), (.v 10)]) }
def l13 : List (Nat × LAnn) := [(3, L101300)]
def i13 : List (Nat × List Nat × List Nat × List Nat × Bool) := [(31, [], [], [], false), (47, [0], [], [], false), (32, [], [], [], false), (39, [], [], [], false), (34, [], [], [], false), (35, [], [], [], false), (50, [], [], [], false), (48, [], [], [], false), (54, [], [], [], true), (44, [], [], [], false), (42, [], [], [], false), (52, [], [], [], false), (53, [], [], [], false), (45, [], [], [], false)]
theorem x13 : AllOk Try.prog (lpF (l13.map (·.2)) (tabF T14)) gl (tabS T14) := (AllOk.loops (l := l13.map (·.2)) A14 (by kernel_rfl))
theorem y13l : LsOk (lpF (l13.map (·.2)) (tabF T14)) l13 := LoopsOk.of (fn := Try.f13) (gl := gl) (s := s13) (l := l13) (by kernel_rfl)
theorem h13 : HOk Try.prog (lpF (l13.map (·.2)) (tabF T14)) gl (hC (mkIs l13 i13) (tabS T14)) := hC_ok x13 (by kernel_rfl) (by kernel_rfl) (mkIs_ok y13l)
theorem k13 : fnX Try.prog (hC (mkIs l13 i13) (tabS T14)) gl (ctlL Try.f13 gl s13 (sel l13 [])) Try.f13 s13 = some S13 := by kernel_rfl
noncomputable def F13 : Fun := S13.run (lpF (l13.map (·.2)) (tabF T14)) true
theorem y13 : LoopsOk (lpF (l13.map (·.2)) (tabF T14)) (ctlL Try.f13 gl s13 (sel l13 [])) := fun p hp => y13l p (sel_mem hp)
theorem z13 : (wsEm S13.em (argI s13.args) (argB s13.args) && shOk s13 && s13.pre) = true := by kernel_rfl
theorem d13 : Contract Try.prog gl 13 s13 F13 := contract_pre h13 Try.func13 y13 k13 z13
theorem c13 : Contract Try.prog gl 13 s13 F13 := d13
theorem call13 : ∀ args w, (callFunc 13 args).run Try.prog w = .ok (.enter 13 args) w := callable_of Try.func13 (by kernel_rfl) (by kernel_rfl)
noncomputable def e13 : Nat × Sum × Fun := (13, s13, F13)
noncomputable def T15 : List (Nat × Sum × Fun) := e13 :: T14
theorem A15 : AllOk Try.prog (tabF T15) gl (tabS T15) := AllOk.cons (s := e13.2.1) c13 call13 (fun S h => by cases h) A14
/-! seepage/seepageref02.In -/
def s14 : Sum := { args := [(.val false [(.sl [(.int .i64), (.int .i64)])]), (.val false [(.int .i64)])], tup := false, res := [(false, [.bool])], pre := true }
def S14 : Smry := (.mk [(.call 101400 [(.v 0), (.v 1), (.v 2), (.c 0), (.c 0)] [] 3 2 0 2), (.ob [] (.v 0)), (.db 2 (.cm .gtr (.v 3) (.c 0)))] [] [(.v 2)])
def L101400 : LAnn := { id := 101400, ga := [0, 1, 2], gb := [], hv := [5, 6], dr := [2, 3, 7, 8, 9, 11, 12, 13, 14, 15, 16, 17, 18, 19, 20, 21, 22, 23, 24, 25, 26, 27, 29, 30, 31, 32], hb := [], db := [], xs := [4, 5, 6], xb := [], nI := 5, nB := 0, S := (.mk [(.db 0 (.cm .lss (.v 4) (.v 1))), (.db 1 (.cm .geq (.v 4) (.c 0))), (.ob [((.v 0), true)] (.v 1)), (.db 2 (.cm .lss (.v 4) (.v 1))), (.ob [((.v 0), true)] (.v 2)), (.di 5 (.get (.v 0) (.v 4) 2 0)), (.db 3 (.cm .leq (.v 5) (.v 2))), (.db 4 (.cm .geq (.v 4) (.c 0))), (.ob [((.v 0), true), ((.v 3), true)] (.v 4)), (.db 5 (.cm .lss (.v 4) (.v 1))), (.ob [((.v 0), true), ((.v 3), true)] (.v 5)), (.di 6 (.get (.v 0) (.v 4) 2 1)), (.db 6 (.cm .leq (.v 2) (.v 6))), (.db 7 (.and (.v 3) (.v 6))), (.di 7 (.ar .add .i64 (.v 3) (.c 1))), (.di 8 (.ite (.v 7) (.v 7) (.v 3))), (.di 9 (.ar .add .i64 (.v 4) (.c 1))), (.db 8 (.not (.v 0)))] [(.v 0), (.v 1), (.v 2), (.v 8), (.v 9), (.v 3), (.v 4)] [(.v 0), (.v 8)]) }
def l14 : List (Nat × LAnn) := [(4, L101400)]
def i14 : List (Nat × List Nat × List Nat × List Nat × Bool) := [(31, [], [], [], false), (47, [], [], [], false), (32, [], [], [], false), (39, [], [], [], false), (34, [], [], [], false), (35, [], [], [], false), (50, [], [], [], false), (48, [], [], [], false), (54, [], [], [], true), (44, [], [], [], false), (42, [], [], [], false), (52, [], [], [], false), (53, [], [], [], false), (45, [], [], [], false)]
theorem x14 : AllOk Try.prog (lpF (l14.map (·.2)) (tabF T15)) gl (tabS T15) := (AllOk.loops (l := l14.map (·.2)) A15 (by kernel_rfl))
theorem y14l : LsOk (lpF (l14.map (·.2)) (tabF T15)) l14 := LoopsOk.of (fn := Try.f14) (gl := gl) (s := s14) (l := l14) (by kernel_rfl)
theorem h14 : HOk Try.prog (lpF (l14.map (·.2)) (tabF T15)) gl (hC (mkIs l14 i14) (tabS T15)) := hC_ok x14 (by kernel_rfl) (by kernel_rfl) (mkIs_ok y14l)
theorem k14 : fnX Try.prog (hC (mkIs l14 i14) (tabS T15)) gl (ctlL Try.f14 gl s14 (sel l14 [0])) Try.f14 s14 = some S14 := by kernel_rfl
noncomputable def F14 : Fun := S14.run (lpF (l14.map (·.2)) (tabF T15)) true
theorem y14 : LoopsOk (lpF (l14.map (·.2)) (tabF T15)) (ctlL Try.f14 gl s14 (sel l14 [0])) := fun p hp => y14l p (sel_mem hp)
theorem z14 : (wsEm S14.em (argI s14.args) (argB s14.args) && shOk s14 && s14.pre) = true := by kernel_rfl
theorem d14 : Contract Try.prog gl 14 s14 F14 := contract_pre h14 Try.func14 y14 k14 z14
theorem c14 : Contract Try.prog gl 14 s14 F14 := d14
theorem call14 : ∀ args w, (callFunc 14 args).run Try.prog w = .ok (.enter 14 args) w := callable_of Try.func14 (by kernel_rfl) (by kernel_rfl)
noncomputable def e14 : Nat × Sum × Fun := (14, s14, F14)
noncomputable def T16 : List (Nat × Sum × Fun) := e14 :: T15
theorem A16 : AllOk Try.prog (tabF T16) gl (tabS T16) := AllOk.cons (s := e14.2.1) c14 call14 (fun S h => by cases h) A15
/-! seepage/seepageref02.Wholes -/
def s15 : Sum := { args := [(.val false [(.sl [(.int .i64), (.int .i64)])])], tup := false, res := [(false, [.bool])], pre := true }
def S15 : Smry := (.mk [(.call 101500 [(.v 0), (.v 1), (.c 0)] [] 2 0 0 3), (.ob [] (.v 0))] [] [(.v 2)])
def L101500 : LAnn := { id := 101500, ga := [0, 1], gb := [], hv := [3], dr := [1, 4, 5, 6, 8, 9, 10, 11, 12, 13, 14], hb := [], db := [], xs := [2], xb := [], nI := 3, nB := 0, S := (.mk [(.db 0 (.cm .lss (.v 2) (.v 1))), (.db 1 (.cm .geq (.v 2) (.c 0))), (.ob [((.v 0), true)] (.v 1)), (.db 2 (.cm .lss (.v 2) (.v 1))), (.ob [((.v 0), true)] (.v 2)), (.di 3 (.get (.v 0) (.v 2) 2 0)), (.di 4 (.get (.v 0) (.v 2) 2 1)), (.db 3 (.cm .leq (.c 0) (.v 3))), (.db 4 (.cm .leq (.v 3) (.v 4))), (.db 5 (.and (.v 3) (.v 4))), (.db 6 (.cm .leq (.v 4) (.c 65535))), (.db 7 (.and (.v 5) (.v 6))), (.db 8 (.not (.v 7))), (.di 5 (.ar .add .i64 (.v 2) (.c 1))), (.db 9 (.not (.v 8))), (.db 10 (.not (.v 8))), (.db 11 (.and (.v 0) (.v 10))), (.db 12 (.and (.v 0) (.v 8))), (.db 13 (.not (.v 0)))] [(.v 0), (.v 1), (.v 5)] [(.v 11), (.v 12), (.v 13)]) }
def l15 : List (Nat × LAnn) := [(3, L101500)]
def i15 : List (Nat × List Nat × List Nat × List Nat × Bool) := [(31, [], [], [], false), (47, [], [], [], false), (32, [], [], [], false), (39, [], [], [], false), (34, [], [], [], false), (35, [], [], [], false), (50, [], [], [], false), (48, [], [], [], false), (54, [], [], [], true), (44, [], [], [], false), (42, [], [], [], false), (52, [], [], [], false), (53, [], [], [], false), (45, [], [], [], false)]
theorem x15 : AllOk Try.prog (lpF (l15.map (·.2)) (tabF T16)) gl (tabS T16) := (AllOk.loops (l := l15.map (·.2)) A16 (by kernel_rfl))
theorem y15l : LsOk (lpF (l15.map (·.2)) (tabF T16)) l15 := LoopsOk.of (fn := Try.f15) (gl := gl) (s := s15) (l := l15) (by kernel_rfl)
theorem h15 : HOk Try.prog (lpF (l15.map (·.2)) (tabF T16)) gl (hC (mkIs l15 i15) (tabS T16)) := hC_ok x15 (by kernel_rfl) (by kernel_rfl) (mkIs_ok y15l)
theorem k15 : fnX Try.prog (hC (mkIs l15 i15) (tabS T16)) gl (ctlL Try.f15 gl s15 (sel l15 [0])) Try.f15 s15 = some S15 := by kernel_rfl
noncomputable def F15 : Fun := S15.run (lpF (l15.map (·.2)) (tabF T16)) true
theorem y15 : LoopsOk (lpF (l15.map (·.2)) (tabF T16)) (ctlL Try.f15 gl s15 (sel l15 [0])) := fun p hp => y15l p (sel_mem hp)
theorem z15 : (wsEm S15.em (argI s15.args) (argB s15.args) && shOk s15 && s15.pre) = true := by kernel_rfl
theorem d15 : Contract Try.prog gl 15 s15 F15 := contract_pre h15 Try.func15 y15 k15 z15
theorem c15 : Contract Try.prog gl 15 s15 F15 := d15
theorem call15 : ∀ args w, (callFunc 15 args).run Try.prog w = .ok (.enter 15 args) w := callable_of Try.func15 (by kernel_rfl) (by kernel_rfl)
noncomputable def e15 : Nat × Sum × Fun := (15, s15, F15)
noncomputable def T17 : List (Nat × Sum × Fun) := e15 :: T16
theorem A17 : AllOk Try.prog (tabF T17) gl (tabS T17) := AllOk.cons (s := e15.2.1) c15 call15 (fun S h => by cases h) A16
/-! seepage/seepageref02.Stretches -/
def s40 : Sum := { args := [(.val false [(.sl [.bool])])], tup := false, res := [(false, [(.sl [(.int .i64), (.int .i64)])])], pre := true }
def S40 : Smry := (.mk [(.call 104000 [(.v 0), (.v 1), (.c 0), (.c 0), (.c 0)] [] 2 2 0 2), (.ob [] (.v 0))] [(.v 2), (.v 3)] [])
def L104000 : LAnn := { id := 104000, ga := [0, 1], gb := [], hv := [4], dr := [1, 5, 6, 7, 9, 10, 11, 12, 13, 14, 16, 17, 18, 19, 20, 21, 22, 23, 25, 26, 27, 28, 29, 30, 31, 32, 33, 34, 35, 36, 37, 38], hb := [1], db := [], xs := [2], xb := [1], nI := 5, nB := 0, S := (.mk [(.db 0 (.cm .lss (.v 2) (.v 1))), (.db 1 (.cm .geq (.v 2) (.c 0))), (.ob [((.v 0), true)] (.v 1)), (.db 2 (.cm .lss (.v 2) (.v 1))), (.ob [((.v 0), true)] (.v 2)), (.db 3 (.getb (.v 0) (.v 2) 1 0)), (.db 4 (.not (.v 3))), (.db 5 (.cm .gtr (.v 2) (.c 0))), (.di 5 (.ar .sub .i64 (.v 2) (.c 1))), (.db 6 (.cm .geq (.v 5) (.c 0))), (.ob [((.v 0), true), ((.v 4), false), ((.v 5), true)] (.v 6)), (.db 7 (.cm .lss (.v 5) (.v 1))), (.ob [((.v 0), true), ((.v 4), false), ((.v 5), true)] (.v 7)), (.db 8 (.getb (.v 0) (.v 5) 1 0)), (.db 9 (.and (.v 5) (.v 8))), (.di 6 (.ar .sub .i64 (.v 4) (.c 1))), (.db 10 (.cm .geq (.v 6) (.c 0))), (.ob [((.v 0), true), ((.v 4), false), ((.v 9), true)] (.v 10)), (.db 11 (.cm .lss (.v 6) (.v 4))), (.ob [((.v 0), true), ((.v 4), false), ((.v 9), true)] (.v 11)), (.di 7 (.setq (.v 3) (.v 6) 2 1 (.v 2))), (.di 8 (.lst [(.v 2), (.v 2)])), (.db 12 (.cm .leq (.v 4) (.c 4398046511104))), (.ob [((.v 0), true), ((.v 4), false), ((.v 9), false)] (.v 12)), (.di 9 (.cat (.v 3) (.v 8))), (.di 10 (.ar .add .i64 (.v 4) (.c 1))), (.di 11 (.ite (.v 9) (.v 7) (.v 9))), (.di 12 (.ite (.v 9) (.v 4) (.v 10))), (.db 13 (.not (.v 4))), (.db 14 (.not (.v 4))), (.db 15 (.or (.v 14) (.v 4))), (.di 13 (.ite (.v 14) (.v 11) (.v 3))), (.di 14 (.ite (.v 14) (.v 12) (.v 4))), (.di 15 (.ar .add .i64 (.v 2) (.c 1))), (.db 16 (.not (.v 0)))] [(.v 0), (.v 1), (.v 15), (.v 13), (.v 14), (.v 3), (.v 4)] [(.v 0), (.v 16)]), sd := [(1000003, 0, true, [.int .i64, .int .i64])] }
def l40 : List (Nat × LAnn) := [(4, L104000)]
def i40 : List (Nat × List Nat × List Nat × List Nat × Bool) := [(31, [], [], [], false), (47, [], [], [], false), (32, [], [], [], false), (39, [], [], [], false), (34, [], [], [], false), (35, [], [], [], false), (50, [], [], [], false), (48, [], [], [], false), (54, [], [], [], true), (44, [], [], [], false), (42, [], [], [], false), (52, [], [], [], false), (53, [], [], [], false), (45, [], [], [], false)]
theorem x40 : AllOk Try.prog (lpF (l40.map (·.2)) (tabF T17)) gl (tabS T17) := (AllOk.loops (l := l40.map (·.2)) A17 (by kernel_rfl))
theorem y40l : LsOk (lpF (l40.map (·.2)) (tabF T17)) l40 := LoopsOk.of (fn := Try.f40) (gl := gl) (s := s40) (l := l40) (by kernel_rfl)
theorem h40 : HOk Try.prog (lpF (l40.map (·.2)) (tabF T17)) gl (hC (mkIs l40 i40) (tabS T17)) := hC_ok x40 (by kernel_rfl) (by kernel_rfl) (mkIs_ok y40l)
theorem k40 : fnX Try.prog (hC (mkIs l40 i40) (tabS T17)) gl (ctlL Try.f40 gl s40 (sel l40 [0])) Try.f40 s40 = some S40 := by kernel_rfl
noncomputable def F40 : Fun := S40.run (lpF (l40.map (·.2)) (tabF T17)) true
theorem y40 : LoopsOk (lpF (l40.map (·.2)) (tabF T17)) (ctlL Try.f40 gl s40 (sel l40 [0])) := fun p hp => y40l p (sel_mem hp)
theorem z40 : (wsEm S40.em (argI s40.args) (argB s40.args) && shOk s40 && s40.pre) = true := by kernel_rfl
theorem d40 : Contract Try.prog gl 40 s40 F40 := contract_pre h40 Try.func40 y40 k40 z40
theorem c40 : Contract Try.prog gl 40 s40 F40 := d40
theorem call40 : ∀ args w, (callFunc 40 args).run Try.prog w = .ok (.enter 40 args) w := callable_of Try.func40 (by kernel_rfl) (by kernel_rfl)
noncomputable def e40 : Nat × Sum × Fun := (40, s40, F40)
noncomputable def T18 : List (Nat × Sum × Fun) := e40 :: T17
theorem A18 : AllOk Try.prog (tabF T18) gl (tabS T18) := AllOk.cons (s := e40.2.1) c40 call40 (fun S h => by cases h) A17
/-! seepage/seepageref02.Tidy -/
def s18 : Sum := { args := [(.val false [(.sl [(.int .i64), (.int .i64)])])], tup := false, res := [(false, [(.sl [(.int .i64), (.int .i64)])])], pre := true }
def S18 : Smry := (.mk [(.call 101800 [(.v 0), (.v 1), (.c 0), (.c 0)] [] 2 2 0 2), (.ob [] (.v 0)), (.db 2 (.cm .geq (.v 2) (.c 0))), (.ob [] (.v 2)), (.db 3 (.cm .leq (.v 2) (.c 281474976710656))), (.ob [] (.v 3)), (.di 4 (.rep (.v 2) 1)), (.call 101801 [(.v 0), (.v 1), (.c 0), (.v 4), (.v 2)] [] 5 3 4 2), (.ob [] (.v 4)), (.call 40 [(.v 6), (.v 7)] [] 8 2 6 1), (.ob [] (.v 6))] [(.v 8), (.v 9)] [])
def L101800 : LAnn := { id := 101800, ga := [0, 1], gb := [], hv := [3, 4], dr := [1, 8, 9, 10, 12, 13, 14, 15, 16, 17, 18, 19, 20, 21, 22, 23, 24, 25, 26, 28, 29, 30, 31, 32, 33, 34, 35, 36, 37, 38, 39, 40, 42, 43, 44, 45, 46, 47, 48], hb := [], db := [], xs := [2, 3, 4], xb := [], nI := 4, nB := 0, S := (.mk [(.db 0 (.cm .lss (.v 3) (.v 1))), (.db 1 (.cm .geq (.v 3) (.c 0))), (.ob [((.v 0), true)] (.v 1)), (.db 2 (.cm .lss (.v 3) (.v 1))), (.ob [((.v 0), true)] (.v 2)), (.di 4 (.get (.v 0) (.v 3) 2 1)), (.di 5 (.ar .add .i64 (.v 4) (.c 1))), (.di 6 (.mx (.v 2) (.v 5))), (.di 7 (.ar .add .i64 (.v 3) (.c 1))), (.db 3 (.not (.v 0)))] [(.v 0), (.v 1), (.v 6), (.v 7), (.v 2), (.v 3)] [(.v 0), (.v 3)]) }
def L101801 : LAnn := { id := 101801, ga := [0, 1], gb := [], hv := [6], dr := [1, 8, 9, 10, 12, 13, 14, 15, 16, 17, 18, 19, 20, 21, 22, 23, 24, 25, 26, 28, 29, 30, 31, 32, 33, 34, 35, 36, 37, 38, 39, 40, 42, 43, 44, 45, 46, 47, 48], hb := [3], db := [], xs := [2, 6], xb := [3], nI := 5, nB := 0, S := (.mk [(.db 0 (.cm .lss (.v 2) (.v 1))), (.db 1 (.cm .geq (.v 2) (.c 0))), (.ob [((.v 0), true)] (.v 1)), (.db 2 (.cm .lss (.v 2) (.v 1))), (.ob [((.v 0), true)] (.v 2)), (.di 5 (.get (.v 0) (.v 2) 2 0)), (.call 101802 [(.v 0), (.v 1), (.v 2), (.v 5), (.v 3), (.v 4)] [] 6 3 3 2), (.ob [((.v 0), true)] (.v 3)), (.di 9 (.ar .add .i64 (.v 2) (.c 1))), (.db 5 (.not (.v 0)))] [(.v 0), (.v 1), (.v 9), (.v 7), (.v 8), (.v 2), (.v 3), (.v 4)] [(.v 0), (.v 5)]) }
def L101802 : LAnn := { id := 101802, ga := [0, 1, 2], gb := [], hv := [7], dr := [1, 8, 9, 10, 12, 13, 14, 15, 16, 17, 18, 19, 20, 21, 22, 23, 24, 25, 26, 28, 29, 30, 31, 32, 33, 34, 35, 36, 37, 38, 39, 40, 42, 43, 44, 45, 46, 47, 48], hb := [3], db := [], xs := [2, 7], xb := [3], nI := 6, nB := 0, S := (.mk [(.db 0 (.cm .geq (.v 2) (.c 0))), (.ob [] (.v 0)), (.db 1 (.cm .lss (.v 2) (.v 1))), (.ob [] (.v 1)), (.di 6 (.get (.v 0) (.v 2) 2 1)), (.db 2 (.cm .leq (.v 3) (.v 6))), (.db 3 (.cm .geq (.v 3) (.c 0))), (.ob [((.v 2), true)] (.v 3)), (.db 4 (.cm .lss (.v 3) (.v 5))), (.ob [((.v 2), true)] (.v 4)), (.di 7 (.setq (.v 4) (.v 3) 1 0 (.c 1))), (.di 8 (.ar .add .i64 (.v 3) (.c 1))), (.db 5 (.not (.v 2)))] [(.v 0), (.v 1), (.v 2), (.v 8), (.v 7), (.v 5), (.v 3), (.v 4), (.v 5)] [(.v 2), (.v 5)]) }
def l18 : List (Nat × LAnn) := [(4, L101800), (9, L101801), (12, L101802)]
def i18 : List (Nat × List Nat × List Nat × List Nat × Bool) := [(31, [], [], [], false), (47, [], [], [], false), (32, [], [], [], false), (39, [], [], [], false), (34, [], [], [], false), (35, [], [], [], false), (50, [], [], [], false), (48, [], [], [], false), (54, [], [], [], true), (44, [], [], [], false), (42, [], [], [], false), (52, [], [], [], false), (53, [], [], [], false), (45, [], [], [], false)]
theorem x18 : AllOk Try.prog (lpF (l18.map (·.2)) (tabF T18)) gl (tabS T18) := (AllOk.loops (l := l18.map (·.2)) A18 (by kernel_rfl))
theorem y18l : LsOk (lpF (l18.map (·.2)) (tabF T18)) l18 := LoopsOk.of (fn := Try.f18) (gl := gl) (s := s18) (l := l18) (by kernel_rfl)
theorem h18 : HOk Try.prog (lpF (l18.map (·.2)) (tabF T18)) gl (hC (mkIs l18 i18) (tabS T18)) := hC_ok x18 (by kernel_rfl) (by kernel_rfl) (mkIs_ok y18l)
theorem k18 : fnX Try.prog (hC (mkIs l18 i18) (tabS T18)) gl ((ctlL Try.f18 gl s18 (sel l18 [0, 1, 2])).fz [40]) Try.f18 s18 = some S18 := by kernel_rfl
noncomputable def F18 : Fun := S18.run (lpF (l18.map (·.2)) (tabF T18)) true
theorem y18 : LoopsOk (lpF (l18.map (·.2)) (tabF T18)) ((ctlL Try.f18 gl s18 (sel l18 [0, 1, 2])).fz [40]) := fun p hp => y18l p (sel_mem hp)
theorem z18 : (wsEm S18.em (argI s18.args) (argB s18.args) && shOk s18 && s18.pre) = true := by kernel_rfl
theorem d18 : Contract Try.prog gl 18 s18 F18 := contract_pre h18 Try.func18 y18 k18 z18
theorem c18 : Contract Try.prog gl 18 s18 F18 := d18
theorem call18 : ∀ args w, (callFunc 18 args).run Try.prog w = .ok (.enter 18 args) w := callable_of Try.func18 (by kernel_rfl) (by kernel_rfl)
noncomputable def e18 : Nat × Sum × Fun := (18, s18, F18)
noncomputable def T19 : List (Nat × Sum × Fun) := e18 :: T18
theorem A19 : AllOk Try.prog (tabF T19) gl (tabS T19) := AllOk.cons (s := e18.2.1) c18 call18 (fun S h => by cases h) A18
/-! seepage/seepagelaw02.CellsRanges -/
def s3 : Sum := { args := [(.val false [(.sl [(.int .i64), (.int .i64)])]), (.val false [(.int .i64)])], tup := false, res := [(false, [.bool])], pre := true }
def S3 : Smry := (.mk [(.call 9 [(.v 0), (.v 1)] [] 3 2 0 1), (.ob [] (.v 0)), (.call 10 [(.v 3), (.v 4)] [] 5 3 1 1), (.ob [] (.v 1)), (.call 11 [(.v 3), (.v 4)] [] 8 1 2 1), (.ob [] (.v 2)), (.db 3 (.cm .eql (.v 8) (.c 0))), (.call 12 [(.v 3), (.v 4)] [] 9 0 4 2), (.ob [] (.v 4)), (.db 6 (.eqb (.v 3) (.v 5))), (.db 7 (.not (.v 6))), (.call 13 [(.v 3), (.v 4), (.v 2)] [] 9 0 8 2), (.ob [((.v 7), false)] (.v 8)), (.call 14 [(.v 3), (.v 4), (.v 2)] [] 9 0 10 2), (.ob [((.v 7), false)] (.v 10)), (.db 12 (.eqb (.v 9) (.v 11))), (.db 13 (.not (.v 12))), (.db 14 (.or (.v 7) (.v 13))), (.call 15 [(.v 3), (.v 4)] [] 9 0 15 2), (.ob [((.v 14), false)] (.v 15)), (.db 17 (.not (.v 16))), (.db 18 (.cm .eql (.v 6) (.c 0))), (.db 19 (.cm .eql (.v 7) (.c 1))), (.db 20 (.and (.v 18) (.v 19))), (.call 16 [] [] 9 0 21 2), (.ob [((.v 14), false), ((.v 17), true), ((.v 20), true)] (.v 21)), (.db 23 (.and (.v 20) (.v 22))), (.call 18 [(.v 3), (.v 4)] [] 9 2 24 1), (.ob [((.v 14), false), ((.v 17), false)] (.v 24)), (.call 17 [(.v 5), (.v 6), (.v 9), (.v 10)] [] 11 0 25 2), (.ob [((.v 14), false), ((.v 17), false)] (.v 25)), (.db 27 (.cm .eql (.v 7) (.c 0))), (.db 28 (.and (.v 26) (.v 27))), (.call 16 [] [] 11 0 29 2), (.ob [((.v 14), false), ((.v 17), false), ((.v 28), true)] (.v 29)), (.db 31 (.and (.v 28) (.v 30))), (.db 32 (.not (.v 17))), (.db 33 (.ite (.v 32) (.v 31) (.v 23))), (.db 34 (.not (.v 14))), (.db 35 (.and (.v 34) (.v 33)))] [] [(.v 35)])
def i3 : List (Nat × List Nat × List Nat × List Nat × Bool) := sp0
theorem x3 : AllOk Try.prog (tabF T19) gl (tabS T19) := A19
theorem y3l : LsOk (tabF T19) [] := fun p hp => by cases hp
theorem h3 : HOk Try.prog (tabF T19) gl (hC (mkIs [] i3) (tabS T19)) := hC_ok x3 (by kernel_rfl) (by kernel_rfl) (mkIs_ok y3l)
theorem k3 : fnX Try.prog (hC (mkIs [] i3) (tabS T19)) gl (ctlL Try.f3 gl s3 []) Try.f3 s3 = some S3 := by kernel_rfl
noncomputable def F3 : Fun := S3.run (tabF T19) true
theorem y3 : LoopsOk (tabF T19) (ctlL Try.f3 gl s3 []) := fun p hp => by cases hp
theorem z3 : (wsEm S3.em (argI s3.args) (argB s3.args) && shOk s3 && s3.pre) = true := by kernel_rfl
theorem d3 : Contract Try.prog gl 3 s3 F3 := contract_pre h3 Try.func3 y3 k3 z3
theorem c3 : Contract Try.prog gl 3 s3 F3 := d3
theorem call3 : ∀ args w, (callFunc 3 args).run Try.prog w = .ok (.enter 3 args) w := callable_of Try.func3 (by kernel_rfl) (by kernel_rfl)
noncomputable def e3 : Nat × Sum × Fun := (3, s3, F3)
noncomputable def T20 : List (Nat × Sum × Fun) := e3 :: T19
theorem A20 : AllOk Try.prog (tabF T20) gl (tabS T20) := AllOk.cons (s := e3.2.1) c3 call3 (fun S h => by cases h) A19
/-! seepage/seepagelaw02.CellsTidy -/
def s4 : Sum := { args := [(.val false [(.sl [(.int .i64), (.int .i64)])]), (.val false [(.int .u16)])], tup := false, res := [(false, [.bool])], pre := true }
def S4 : Smry := (.mk [(.call 9 [(.v 0), (.v 1)] [] 3 2 0 1), (.ob [] (.v 0)), (.call 10 [(.v 3), (.v 4)] [] 5 3 1 1), (.ob [] (.v 1)), (.db 2 (.cm .neq (.v 7) (.c 0))), (.db 3 (.cm .eql (.v 6) (.c 0))), (.call 16 [] [] 8 0 4 2), (.ob [((.v 2), true), ((.v 3), true)] (.v 4)), (.db 6 (.and (.v 3) (.v 5))), (.call 10 [(.v 5), (.v 6)] [] 8 3 7 1), (.ob [((.v 2), false)] (.v 7)), (.call 11 [(.v 5), (.v 6)] [] 11 1 8 1), (.ob [((.v 2), false)] (.v 8)), (.db 9 (.cm .neq (.v 11) (.c 0))), (.db 10 (.cm .neq (.v 10) (.c 0))), (.db 11 (.or (.v 9) (.v 10))), (.call 17 [(.v 8), (.v 9), (.v 5), (.v 6)] [] 12 0 12 2), (.ob [((.v 2), false), ((.v 11), false)] (.v 12)), (.db 14 (.not (.v 13))), (.db 15 (.or (.v 11) (.v 14))), (.call 11 [(.v 3), (.v 4)] [] 12 1 16 1), (.ob [((.v 2), false), ((.v 15), false)] (.v 16)), (.db 17 (.cm .eql (.v 12) (.c 0))), (.call 17 [(.v 5), (.v 6), (.v 3), (.v 4)] [] 13 0 18 2), (.ob [((.v 2), false), ((.v 15), false), ((.v 17), true)] (.v 18)), (.db 20 (.not (.v 19))), (.db 21 (.and (.v 17) (.v 20))), (.db 22 (.or (.v 15) (.v 21))), (.di 13 (.cv .i64 (.v 2))), (.call 13 [(.v 5), (.v 6), (.v 13)] [] 14 0 23 2), (.ob [((.v 2), false), ((.v 22), false)] (.v 23)), (.di 14 (.cv .i64 (.v 2))), (.call 13 [(.v 3), (.v 4), (.v 14)] [] 15 0 25 2), (.ob [((.v 2), false), ((.v 22), false)] (.v 25)), (.db 27 (.eqb (.v 24) (.v 26))), (.call 13 [(.v 5), (.v 6), (.c (-1))] [] 15 0 28 2), (.ob [((.v 2), false), ((.v 22), false), ((.v 27), true)] (.v 28)), (.db 30 (.not (.v 29))), (.db 31 (.and (.v 27) (.v 30))), (.call 16 [] [] 15 0 32 2), (.ob [((.v 2), false), ((.v 22), false), ((.v 31), true)] (.v 32)), (.db 34 (.and (.v 31) (.v 33))), (.db 35 (.not (.v 22))), (.db 36 (.and (.v 35) (.v 34))), (.db 37 (.not (.v 2))), (.db 38 (.ite (.v 37) (.v 36) (.v 6)))] [] [(.v 38)])
def i4 : List (Nat × List Nat × List Nat × List Nat × Bool) := sp0
theorem x4 : AllOk Try.prog (tabF T20) gl (tabS T20) := A20
theorem y4l : LsOk (tabF T20) [] := fun p hp => by cases hp
theorem h4 : HOk Try.prog (tabF T20) gl (hC (mkIs [] i4) (tabS T20)) := hC_ok x4 (by kernel_rfl) (by kernel_rfl) (mkIs_ok y4l)
theorem k4 : fnX Try.prog (hC (mkIs [] i4) (tabS T20)) gl (ctlL Try.f4 gl s4 []) Try.f4 s4 = some S4 := by kernel_rfl
noncomputable def F4 : Fun := S4.run (tabF T20) true
theorem y4 : LoopsOk (tabF T20) (ctlL Try.f4 gl s4 []) := fun p hp => by cases hp
theorem z4 : (wsEm S4.em (argI s4.args) (argB s4.args) && shOk s4 && s4.pre) = true := by kernel_rfl
theorem d4 : Contract Try.prog gl 4 s4 F4 := contract_pre h4 Try.func4 y4 k4 z4
theorem c4 : Contract Try.prog gl 4 s4 F4 := d4
theorem call4 : ∀ args w, (callFunc 4 args).run Try.prog w = .ok (.enter 4 args) w := callable_of Try.func4 (by kernel_rfl) (by kernel_rfl)
noncomputable def e4 : Nat × Sum × Fun := (4, s4, F4)
noncomputable def T21 : List (Nat × Sum × Fun) := e4 :: T20
theorem A21 : AllOk Try.prog (tabF T21) gl (tabS T21) := AllOk.cons (s := e4.2.1) c4 call4 (fun S h => by cases h) A20
/-! seepage/seepagelaw02.Few -/
def s19 : Sum := { args := [(.val false [(.sl [(.int .u8), .bool])])], tup := false, res := [(false, [(.sl [(.int .u8), .bool])])], pre := true }
def S19 : Smry := (.mk [(.db 0 (.cm .gtr (.v 1) (.c 300))), (.db 1 (.cm .leq (.c 300) (.v 1))), (.ob [((.v 0), true)] (.v 1)), (.di 2 (.sub (.v 0) (.c 0) (.c 300) 2)), (.db 2 (.not (.v 0))), (.di 3 (.ite (.v 2) (.v 0) (.v 2))), (.di 4 (.ite (.v 2) (.v 1) (.c 300)))] [(.v 3), (.v 4)] [])
def i19 : List (Nat × List Nat × List Nat × List Nat × Bool) := sp0
theorem x19 : AllOk Try.prog (tabF T21) gl (tabS T21) := A21
theorem y19l : LsOk (tabF T21) [] := fun p hp => by cases hp
theorem h19 : HOk Try.prog (tabF T21) gl (hC (mkIs [] i19) (tabS T21)) := hC_ok x19 (by kernel_rfl) (by kernel_rfl) (mkIs_ok y19l)
theorem k19 : fnX Try.prog (hC (mkIs [] i19) (tabS T21)) gl (ctlL Try.f19 gl s19 []) Try.f19 s19 = some S19 := by kernel_rfl
noncomputable def F19 : Fun := S19.run (tabF T21) true
theorem y19 : LoopsOk (tabF T21) (ctlL Try.f19 gl s19 []) := fun p hp => by cases hp
theorem z19 : (wsEm S19.em (argI s19.args) (argB s19.args) && shOk s19 && s19.pre) = true := by kernel_rfl
theorem d19 : Contract Try.prog gl 19 s19 F19 := contract_pre h19 Try.func19 y19 k19 z19
theorem c19 : Contract Try.prog gl 19 s19 F19 := d19
theorem call19 : ∀ args w, (callFunc 19 args).run Try.prog w = .ok (.enter 19 args) w := callable_of Try.func19 (by kernel_rfl) (by kernel_rfl)
noncomputable def e19 : Nat × Sum × Fun := (19, s19, F19)
noncomputable def T22 : List (Nat × Sum × Fun) := e19 :: T21
theorem A22 : AllOk Try.prog (tabF T22) gl (tabS T22) := AllOk.cons (s := e19.2.1) c19 call19 (fun S h => by cases h) A21
/-! seepage/cells.Store -/
def s21 : Sum := { args := [(.val false [(.sl [(.int .u8), .bool])]), (.val false [(.int .i64)]), (.val true [(.int .u8), .bool])], tup := true, res := [(false, [(.sl [(.int .u8), .bool])]), (false, [(.int .i64)])], pre := true }
def S21 : Smry := (.mk [(.db 1 (.cm .lss (.v 2) (.c 0))), (.db 2 (.cm .geq (.v 2) (.v 1))), (.db 3 (.or (.v 1) (.v 2))), (.db 4 (.cm .leq (.v 1) (.c 35184372088832))), (.ob [((.v 3), false)] (.v 4)), (.db 5 (.cm .geq (.v 2) (.c 0))), (.ob [((.v 3), false)] (.v 5)), (.db 6 (.cm .lss (.v 2) (.v 1))), (.ob [((.v 3), false)] (.v 6)), (.di 4 (.b2i (.v 0))), (.di 5 (.setq (.v 0) (.v 2) 2 0 (.v 3))), (.di 6 (.setq (.v 5) (.v 2) 2 1 (.v 4))), (.db 7 (.not (.v 3))), (.di 7 (.ite (.v 7) (.v 6) (.v 0))), (.di 8 (.ite (.v 7) (.c 0) (.c 2)))] [(.v 7), (.v 1), (.v 8)] [])
def i21 : List (Nat × List Nat × List Nat × List Nat × Bool) := sp0
theorem x21 : AllOk Try.prog (tabF T22) gl (tabS T22) := A22
theorem y21l : LsOk (tabF T22) [] := fun p hp => by cases hp
theorem h21 : HOk Try.prog (tabF T22) gl (hC (mkIs [] i21) (tabS T22)) := hC_ok x21 (by kernel_rfl) (by kernel_rfl) (mkIs_ok y21l)
theorem k21 : fnX Try.prog (hC (mkIs [] i21) (tabS T22)) gl (ctlL Try.f21 gl s21 []) Try.f21 s21 = some S21 := by kernel_rfl
noncomputable def F21 : Fun := S21.run (tabF T22) true
theorem y21 : LoopsOk (tabF T22) (ctlL Try.f21 gl s21 []) := fun p hp => by cases hp
theorem z21 : (wsEm S21.em (argI s21.args) (argB s21.args) && shOk s21 && s21.pre) = true := by kernel_rfl
theorem d21 : Contract Try.prog gl 21 s21 F21 := contract_pre h21 Try.func21 y21 k21 z21
theorem c21 : Contract Try.prog gl 21 s21 F21 := d21
theorem call21 : ∀ args w, (callFunc 21 args).run Try.prog w = .ok (.enter 21 args) w := callable_of Try.func21 (by kernel_rfl) (by kernel_rfl)
noncomputable def e21 : Nat × Sum × Fun := (21, s21, F21)
noncomputable def T23 : List (Nat × Sum × Fun) := e21 :: T22
theorem A23 : AllOk Try.prog (tabF T23) gl (tabS T23) := AllOk.cons (s := e21.2.1) c21 call21 (fun S h => by cases h) A22
/-! seepage/seepagelaw02.CellsStore -/
def s5 : Sum := { args := [(.val false [(.sl [(.int .u8), .bool])]), (.val false [(.int .i64)]), (.val true [(.int .u8), .bool])], tup := false, res := [(false, [.bool])], pre := true }
def S5 : Smry := (.mk [(.call 19 [(.v 0), (.v 1)] [] 4 2 1 1), (.ob [] (.v 1)), (.db 2 (.cm .leq (.v 5) (.c 35184372088832))), (.ob [] (.v 2)), (.db 3 (.cm .lss (.v 2) (.c 0))), (.db 4 (.cm .geq (.v 2) (.v 5))), (.db 5 (.or (.v 3) (.v 4))), (.db 6 (.cm .geq (.v 2) (.c 0))), (.db 7 (.cm .lss (.v 2) (.v 5))), (.di 6 (.get (.v 4) (.v 2) 2 0)), (.db 8 (.getb (.v 4) (.v 2) 2 1)), (.db 9 (.not (.v 5))), (.di 7 (.ite (.v 9) (.c 0) (.c 2))), (.di 8 (.ite (.v 9) (.v 6) (.c 0))), (.db 10 (.and (.v 9) (.v 8))), (.call 21 [(.v 4), (.v 5), (.v 2), (.v 3)] [(.v 0)] 9 3 11 1), (.ob [] (.v 11)), (.call 22 [(.v 4), (.v 5), (.v 4), (.v 5)] [] 12 0 12 2), (.ob [] (.v 12)), (.db 14 (.not (.v 13))), (.db 15 (.cm .lss (.v 2) (.c 0))), (.db 16 (.cm .geq (.v 2) (.v 5))), (.db 17 (.or (.v 15) (.v 16))), (.db 18 (.cm .eql (.v 8) (.c 0))), (.db 19 (.eqb (.v 10) (.c false))), (.db 20 (.and (.v 18) (.v 19))), (.db 21 (.cm .eql (.v 7) (.c 2))), (.db 22 (.and (.v 20) (.v 21))), (.call 22 [(.v 9), (.v 10), (.v 4), (.v 5)] [] 12 0 23 2), (.ob [((.v 14), false), ((.v 17), true), ((.v 22), true)] (.v 23)), (.db 25 (.and (.v 22) (.v 24))), (.db 26 (.cm .eql (.v 11) (.c 2))), (.db 27 (.and (.v 25) (.v 26))), (.call 16 [] [] 12 0 28 2), (.ob [((.v 14), false), ((.v 17), true), ((.v 27), true)] (.v 28)), (.db 30 (.and (.v 27) (.v 29))), (.db 31 (.cm .geq (.v 2) (.c 0))), (.ob [((.v 14), false), ((.v 17), false)] (.v 31)), (.db 32 (.cm .lss (.v 2) (.v 5))), (.ob [((.v 14), false), ((.v 17), false)] (.v 32)), (.di 12 (.get (.v 4) (.v 2) 2 0)), (.db 33 (.getb (.v 4) (.v 2) 2 1)), (.db 34 (.cm .eql (.v 8) (.v 12))), (.db 35 (.eqb (.v 10) (.v 33))), (.db 36 (.and (.v 34) (.v 35))), (.db 37 (.not (.v 36))), (.db 38 (.cm .neq (.v 7) (.c 0))), (.db 39 (.or (.v 37) (.v 38))), (.db 40 (.cm .neq (.v 11) (.c 0))), (.db 41 (.or (.v 39) (.v 40))), (.db 42 (.cm .neq (.v 10) (.v 5))), (.db 43 (.or (.v 41) (.v 42))), (.call 100500 [(.v 2), (.v 3), (.v 4), (.v 5), (.v 9), (.v 10), (.c 0)] [(.v 0)] 13 0 44 3), (.ob [((.v 14), false), ((.v 17), false), ((.v 43), false)] (.v 44)), (.call 16 [] [] 13 0 47 2), (.ob [((.v 14), false), ((.v 17), false), ((.v 43), false), ((.v 46), true)] (.v 47)), (.db 49 (.and (.v 46) (.v 48))), (.db 50 (.not (.v 43))), (.db 51 (.and (.v 50) (.v 49))), (.db 52 (.not (.v 17))), (.db 53 (.ite (.v 52) (.v 51) (.v 30))), (.db 54 (.not (.v 14))), (.db 55 (.and (.v 54) (.v 53)))] [] [(.v 55)])
def L100500 : LAnn := { id := 100500, ga := [2, 3, 4, 5, 9, 10], gb := [0], hv := [12], dr := [3, 4, 16, 17, 18, 19, 20, 21, 22, 23, 24, 25, 26, 27, 28, 29, 30, 31, 32, 33, 34, 35, 36, 38, 39, 40, 41, 42, 43, 44, 46, 47, 48, 49, 50, 51, 52, 53, 54, 55, 56, 57, 58, 59, 60, 61, 62, 63, 64, 65, 66, 67, 68, 69, 70, 71, 72, 73, 74, 75, 76, 77, 78, 79, 80, 81, 82, 83, 84, 86, 87, 88, 90, 91, 92, 93, 94, 95, 96, 97, 99, 100, 101, 102, 103, 104, 105, 106, 107, 108, 109, 110, 111, 113], hb := [], db := [], xs := [6], xb := [], nI := 7, nB := 1, S := (.mk [(.db 1 (.cm .lss (.v 6) (.v 3))), (.db 2 (.cm .geq (.v 6) (.c 0))), (.ob [((.v 1), true)] (.v 2)), (.db 3 (.cm .lss (.v 6) (.v 3))), (.ob [((.v 1), true)] (.v 3)), (.di 7 (.get (.v 2) (.v 6) 2 0)), (.db 4 (.getb (.v 2) (.v 6) 2 1)), (.db 5 (.cm .eql (.v 6) (.v 0))), (.di 8 (.ite (.v 5) (.v 1) (.v 7))), (.db 6 (.ite (.v 5) (.v 0) (.v 4))), (.db 7 (.cm .lss (.v 6) (.c 0))), (.db 8 (.cm .geq (.v 6) (.v 5))), (.db 9 (.or (.v 7) (.v 8))), (.db 10 (.cm .geq (.v 6) (.c 0))), (.db 11 (.cm .lss (.v 6) (.v 5))), (.di 9 (.get (.v 4) (.v 6) 2 0)), (.db 12 (.getb (.v 4) (.v 6) 2 1)), (.db 13 (.not (.v 9))), (.di 10 (.ite (.v 13) (.c 0) (.c 2))), (.di 11 (.ite (.v 13) (.v 9) (.c 0))), (.db 14 (.and (.v 13) (.v 12))), (.db 15 (.cm .eql (.v 11) (.v 8))), (.db 16 (.eqb (.v 14) (.v 6))), (.db 17 (.and (.v 15) (.v 16))), (.db 18 (.not (.v 17))), (.db 19 (.cm .neq (.v 10) (.c 0))), (.db 20 (.or (.v 18) (.v 19))), (.di 12 (.ar .add .i64 (.v 6) (.c 1))), (.db 21 (.not (.v 20))), (.db 22 (.not (.v 20))), (.db 23 (.and (.v 1) (.v 22))), (.db 24 (.and (.v 1) (.v 20))), (.db 25 (.not (.v 1)))] [(.v 0), (.v 1), (.v 2), (.v 3), (.v 4), (.v 5), (.v 12)] [(.v 23), (.v 0), (.v 24), (.v 25)]) }
def l5 : List (Nat × LAnn) := [(13, L100500)]
def i5 : List (Nat × List Nat × List Nat × List Nat × Bool) := [(31, [], [], [], false), (47, [], [], [], false), (32, [], [], [], false), (39, [], [], [], false), (34, [], [], [], false), (35, [], [], [], false), (50, [], [], [], false), (48, [], [], [], false), (54, [], [], [], true), (44, [], [], [], false), (42, [], [], [], false), (52, [], [], [], false), (53, [], [], [], false), (45, [], [], [], false)]
theorem x5 : AllOk Try.prog (lpF (l5.map (·.2)) (tabF T23)) gl (tabS T23) := (AllOk.loops (l := l5.map (·.2)) A23 (by kernel_rfl))
theorem y5l : LsOk (lpF (l5.map (·.2)) (tabF T23)) l5 := LoopsOk.of (fn := Try.f5) (gl := gl) (s := s5) (l := l5) (by kernel_rfl)
theorem h5 : HOk Try.prog (lpF (l5.map (·.2)) (tabF T23)) gl (hC (mkIs l5 i5) (tabS T23)) := hC_ok x5 (by kernel_rfl) (by kernel_rfl) (mkIs_ok y5l)
theorem k5 : fnX Try.prog (hC (mkIs l5 i5) (tabS T23)) gl (ctlL Try.f5 gl s5 (sel l5 [0])) Try.f5 s5 = some S5 := by kernel_rfl
noncomputable def F5 : Fun := S5.run (lpF (l5.map (·.2)) (tabF T23)) true
theorem y5 : LoopsOk (lpF (l5.map (·.2)) (tabF T23)) (ctlL Try.f5 gl s5 (sel l5 [0])) := fun p hp => y5l p (sel_mem hp)
theorem z5 : (wsEm S5.em (argI s5.args) (argB s5.args) && shOk s5 && s5.pre) = true := by kernel_rfl
theorem d5 : Contract Try.prog gl 5 s5 F5 := contract_pre h5 Try.func5 y5 k5 z5
theorem c5 : Contract Try.prog gl 5 s5 F5 := d5
theorem call5 : ∀ args w, (callFunc 5 args).run Try.prog w = .ok (.enter 5 args) w := callable_of Try.func5 (by kernel_rfl) (by kernel_rfl)
noncomputable def e5 : Nat × Sum × Fun := (5, s5, F5)
noncomputable def T24 : List (Nat × Sum × Fun) := e5 :: T23
theorem A24 : AllOk Try.prog (tabF T24) gl (tabS T24) := AllOk.cons (s := e5.2.1) c5 call5 (fun S h => by cases h) A23
/-! seepage/seepageref02.Make -/
def s24 : Sum := { args := [(.val false [(.int .i64)]), (.val false [.str]), (.val false [(.sl [(.int .i64), (.int .i64)])])], tup := false, res := [(false, [(.sl [(.int .u8), .bool])])], pre := true }
def S24 : Smry := (.mk [(.db 0 (.cm .geq (.v 0) (.c 0))), (.ob [] (.v 0)), (.db 1 (.cm .leq (.v 0) (.c 140737488355328))), (.ob [] (.v 1)), (.di 4 (.rep (.v 0) 2)), (.call 102400 [(.v 0), (.v 1), (.v 2), (.v 3), (.c 0), (.v 4), (.v 0)] [] 5 2 2 2), (.ob [] (.v 2))] [(.v 5), (.v 6)] [])
def L102400 : LAnn := { id := 102400, ga := [0, 1, 2, 3], gb := [], hv := [8], dr := [3, 4, 5, 9, 10, 11, 12, 14, 15, 16, 17, 18, 20, 21, 22, 23, 24, 25, 26, 27, 28, 29, 30, 31, 32, 33, 34], hb := [1], db := [], xs := [6], xb := [1], nI := 7, nB := 0, S := (.mk [(.db 0 (.cm .lss (.v 4) (.v 0))), (.di 7 (.lenq (.v 1) 1)), (.db 1 (.cm .lss (.v 4) (.v 7))), (.db 2 (.cm .geq (.v 4) (.c 0))), (.ob [((.v 0), true), ((.v 1), true)] (.v 2)), (.di 8 (.lenq (.v 1) 1)), (.db 3 (.cm .lss (.v 4) (.v 8))), (.ob [((.v 0), true), ((.v 1), true)] (.v 3)), (.di 9 (.get (.v 1) (.v 4) 1 0)), (.db 4 (.cm .geq (.v 4) (.c 0))), (.ob [((.v 0), true), ((.v 1), true)] (.v 4)), (.db 5 (.cm .lss (.v 4) (.v 6))), (.ob [((.v 0), true), ((.v 1), true)] (.v 5)), (.di 10 (.setq (.v 5) (.v 4) 2 0 (.v 9))), (.di 11 (.ite (.v 1) (.v 10) (.v 5))), (.call 14 [(.v 2), (.v 3), (.v 4)] [] 12 0 6 2), (.ob [((.v 0), true)] (.v 6)), (.db 8 (.cm .geq (.v 4) (.c 0))), (.ob [((.v 0), true)] (.v 8)), (.db 9 (.cm .lss (.v 4) (.v 6))), (.ob [((.v 0), true)] (.v 9)), (.di 12 (.b2i (.v 7))), (.di 13 (.setq (.v 11) (.v 4) 2 1 (.v 12))), (.di 14 (.ar .add .i64 (.v 4) (.c 1))), (.db 10 (.not (.v 0)))] [(.v 0), (.v 1), (.v 2), (.v 3), (.v 14), (.v 13), (.v 6), (.v 5), (.v 6)] [(.v 0), (.v 10)]) }
def l24 : List (Nat × LAnn) := [(4, L102400)]
def i24 : List (Nat × List Nat × List Nat × List Nat × Bool) := [(31, [], [], [], false), (47, [], [], [], false), (32, [], [], [], false), (39, [], [], [], false), (34, [], [], [], false), (35, [], [], [], false), (50, [], [], [], false), (48, [], [], [], false), (54, [], [], [], true), (44, [], [], [], false), (42, [], [], [], false), (52, [], [], [], false), (53, [], [], [], false), (45, [], [], [], false)]
theorem x24 : AllOk Try.prog (lpF (l24.map (·.2)) (tabF T24)) gl (tabS T24) := (AllOk.loops (l := l24.map (·.2)) A24 (by kernel_rfl))
theorem y24l : LsOk (lpF (l24.map (·.2)) (tabF T24)) l24 := LoopsOk.of (fn := Try.f24) (gl := gl) (s := s24) (l := l24) (by kernel_rfl)
theorem h24 : HOk Try.prog (lpF (l24.map (·.2)) (tabF T24)) gl (hC (mkIs l24 i24) (tabS T24)) := hC_ok x24 (by kernel_rfl) (by kernel_rfl) (mkIs_ok y24l)
theorem k24 : fnX Try.prog (hC (mkIs l24 i24) (tabS T24)) gl (ctlL Try.f24 gl s24 (sel l24 [0])) Try.f24 s24 = some S24 := by kernel_rfl
noncomputable def F24 : Fun := S24.run (lpF (l24.map (·.2)) (tabF T24)) true
theorem y24 : LoopsOk (lpF (l24.map (·.2)) (tabF T24)) (ctlL Try.f24 gl s24 (sel l24 [0])) := fun p hp => y24l p (sel_mem hp)
theorem z24 : (wsEm S24.em (argI s24.args) (argB s24.args) && shOk s24 && s24.pre) = true := by kernel_rfl
theorem d24 : Contract Try.prog gl 24 s24 F24 := contract_pre h24 Try.func24 y24 k24 z24
theorem c24 : Contract Try.prog gl 24 s24 F24 := d24
theorem call24 : ∀ args w, (callFunc 24 args).run Try.prog w = .ok (.enter 24 args) w := callable_of Try.func24 (by kernel_rfl) (by kernel_rfl)
noncomputable def e24 : Nat × Sum × Fun := (24, s24, F24)
noncomputable def T25 : List (Nat × Sum × Fun) := e24 :: T24
theorem A25 : AllOk Try.prog (tabF T25) gl (tabS T25) := AllOk.cons (s := e24.2.1) c24 call24 (fun S h => by cases h) A24
/-! seepage/cells.Secrets -/
def s25 : Sum := { args := [(.val false [(.sl [(.int .u8), .bool])])], tup := false, res := [(false, [(.sl [(.int .i64), (.int .i64)])])], pre := true }
def S25 : Smry := (.mk [(.di 2 (.ar .add .i64 (.v 1) (.c 1))), (.call 102500 [(.v 0), (.v 1), (.v 2), (.c (-1)), (.c 0), (.c 0), (.c 0)] [] 3 2 0 2), (.ob [] (.v 0))] [(.v 3), (.v 4)] [])
def L102500 : LAnn := { id := 102500, ga := [0, 1, 2], gb := [], hv := [3, 9], dr := [2, 6, 7, 11, 12, 13, 14, 15, 16, 17, 18, 19, 20, 21, 22, 24, 25, 26, 27, 28, 29, 31, 32, 33, 34, 35, 36, 37, 38, 39, 40, 41, 42, 44], hb := [6], db := [], xs := [], xb := [6], nI := 7, nB := 0, S := (.mk [(.db 0 (.cm .lss (.v 4) (.v 2))), (.db 1 (.cm .lss (.v 4) (.v 1))), (.db 2 (.cm .geq (.v 4) (.c 0))), (.ob [((.v 0), true), ((.v 1), true)] (.v 2)), (.db 3 (.cm .lss (.v 4) (.v 1))), (.ob [((.v 0), true), ((.v 1), true)] (.v 3)), (.db 4 (.getb (.v 0) (.v 4) 2 1)), (.db 5 (.and (.v 1) (.v 4))), (.db 6 (.cm .lss (.v 3) (.c 0))), (.db 7 (.and (.v 5) (.v 6))), (.db 8 (.not (.v 5))), (.db 9 (.cm .geq (.v 3) (.c 0))), (.db 10 (.and (.v 8) (.v 9))), (.di 7 (.ar .sub .i64 (.v 4) (.c 1))), (.di 8 (.lst [(.v 3), (.v 7)])), (.db 11 (.cm .leq (.v 6) (.c 4398046511104))), (.ob [((.v 0), true), ((.v 7), false), ((.v 10), true)] (.v 11)), (.di 9 (.cat (.v 5) (.v 8))), (.di 10 (.ar .add .i64 (.v 6) (.c 1))), (.di 11 (.ite (.v 10) (.c (-1)) (.v 3))), (.di 12 (.ite (.v 10) (.v 9) (.v 5))), (.di 13 (.ite (.v 10) (.v 10) (.v 6))), (.di 14 (.ite (.v 7) (.v 4) (.v 11))), (.di 15 (.ite (.v 7) (.v 5) (.v 12))), (.di 16 (.ite (.v 7) (.v 6) (.v 13))), (.di 17 (.ar .add .i64 (.v 4) (.c 1))), (.db 12 (.not (.v 0)))] [(.v 0), (.v 1), (.v 2), (.v 14), (.v 17), (.v 15), (.v 16), (.v 5), (.v 6)] [(.v 0), (.v 12)]), sd := [(1, 0, true, [.int .i64, .int .i64])] }
def l25 : List (Nat × LAnn) := [(3, L102500)]
def i25 : List (Nat × List Nat × List Nat × List Nat × Bool) := [(31, [], [], [], false), (47, [], [], [], false), (32, [], [], [], false), (39, [], [], [], false), (34, [], [], [], false), (35, [], [], [], false), (50, [], [], [], false), (48, [], [], [], false), (54, [], [], [], true), (44, [], [], [], false), (42, [], [], [], false), (52, [], [], [], false), (53, [], [], [], false), (45, [], [], [], false)]
theorem x25 : AllOk Try.prog (lpF (l25.map (·.2)) (tabF T25)) gl (tabS T25) := (AllOk.loops (l := l25.map (·.2)) A25 (by kernel_rfl))
theorem y25l : LsOk (lpF (l25.map (·.2)) (tabF T25)) l25 := LoopsOk.of (fn := Try.f25) (gl := gl) (s := s25) (l := l25) (by kernel_rfl)
theorem h25 : HOk Try.prog (lpF (l25.map (·.2)) (tabF T25)) gl (hC (mkIs l25 i25) (tabS T25)) := hC_ok x25 (by kernel_rfl) (by kernel_rfl) (mkIs_ok y25l)
theorem k25 : fnX Try.prog (hC (mkIs l25 i25) (tabS T25)) gl (ctlR Try.prog (hC (mkIs l25 i25) (tabS T25)) gl Try.f25 s25 (sel l25 []) (sel l25 []) (sel l25 [0])) Try.f25 s25 = some S25 := by kernel_rfl
noncomputable def F25 : Fun := S25.run (lpF (l25.map (·.2)) (tabF T25)) true
theorem y25 : LoopsOk (lpF (l25.map (·.2)) (tabF T25)) (ctlR Try.prog (hC (mkIs l25 i25) (tabS T25)) gl Try.f25 s25 (sel l25 []) (sel l25 []) (sel l25 [0])) := fun p hp => y25l p (sel_mem hp)
theorem z25 : (wsEm S25.em (argI s25.args) (argB s25.args) && shOk s25 && s25.pre) = true := by kernel_rfl
theorem d25 : Contract Try.prog gl 25 s25 F25 := contract_preA h25 Try.func25 y25 k25 z25 (EAll.rf h25 (lsOk_sel y25l []) (lsOk_sel y25l [0]))
theorem c25 : Contract Try.prog gl 25 s25 F25 := d25
theorem call25 : ∀ args w, (callFunc 25 args).run Try.prog w = .ok (.enter 25 args) w := callable_of Try.func25 (by kernel_rfl) (by kernel_rfl)
noncomputable def e25 : Nat × Sum × Fun := (25, s25, F25)
noncomputable def T26 : List (Nat × Sum × Fun) := e25 :: T25
theorem A26 : AllOk Try.prog (tabF T26) gl (tabS T26) := AllOk.cons (s := e25.2.1) c25 call25 (fun S h => by cases h) A25
/-! seepage/seepageref02.Secrets -/
def s26 : Sum := { args := [(.val false [(.sl [(.int .u8), .bool])])], tup := false, res := [(false, [(.sl [(.int .i64), (.int .i64)])])], pre := true }
def S26 : Smry := (.mk [(.db 0 (.cm .geq (.v 1) (.c 0))), (.ob [] (.v 0)), (.db 1 (.cm .leq (.v 1) (.c 281474976710656))), (.ob [] (.v 1)), (.di 2 (.rep (.v 1) 1)), (.call 102600 [(.v 0), (.v 1), (.c 0), (.v 2), (.v 1)] [] 3 2 2 2), (.ob [] (.v 2)), (.call 40 [(.v 3), (.v 4)] [] 5 2 4 1), (.ob [] (.v 4))] [(.v 5), (.v 6)] [])
def L102600 : LAnn := { id := 102600, ga := [0, 1], gb := [], hv := [4], dr := [1, 5, 6, 7, 8, 9, 10, 12, 13, 14, 15, 16, 17, 18, 19, 20, 21, 22, 23], hb := [1], db := [], xs := [2], xb := [1], nI := 5, nB := 0, S := (.mk [(.db 0 (.cm .lss (.v 2) (.v 1))), (.db 1 (.cm .geq (.v 2) (.c 0))), (.ob [((.v 0), true)] (.v 1)), (.db 2 (.cm .lss (.v 2) (.v 1))), (.ob [((.v 0), true)] (.v 2)), (.db 3 (.getb (.v 0) (.v 2) 2 1)), (.db 4 (.cm .geq (.v 2) (.c 0))), (.ob [((.v 0), true)] (.v 4)), (.db 5 (.cm .lss (.v 2) (.v 4))), (.ob [((.v 0), true)] (.v 5)), (.di 5 (.b2i (.v 3))), (.di 6 (.setq (.v 3) (.v 2) 1 0 (.v 5))), (.di 7 (.ar .add .i64 (.v 2) (.c 1))), (.db 6 (.not (.v 0)))] [(.v 0), (.v 1), (.v 7), (.v 6), (.v 4), (.v 3), (.v 4)] [(.v 0), (.v 6)]) }
def l26 : List (Nat × LAnn) := [(4, L102600)]
def i26 : List (Nat × List Nat × List Nat × List Nat × Bool) := [(31, [], [], [], false), (47, [], [], [], false), (32, [], [], [], false), (39, [], [], [], false), (34, [], [], [], false), (35, [], [], [], false), (50, [], [], [], false), (48, [], [], [], false), (54, [], [], [], true), (44, [], [], [], false), (42, [], [], [], false), (52, [], [], [], false), (53, [], [], [], false), (45, [], [], [], false)]
theorem x26 : AllOk Try.prog (lpF (l26.map (·.2)) (tabF T26)) gl (tabS T26) := (AllOk.loops (l := l26.map (·.2)) A26 (by kernel_rfl))
theorem y26l : LsOk (lpF (l26.map (·.2)) (tabF T26)) l26 := LoopsOk.of (fn := Try.f26) (gl := gl) (s := s26) (l := l26) (by kernel_rfl)
theorem h26 : HOk Try.prog (lpF (l26.map (·.2)) (tabF T26)) gl (hC (mkIs l26 i26) (tabS T26)) := hC_ok x26 (by kernel_rfl) (by kernel_rfl) (mkIs_ok y26l)
theorem k26 : fnX Try.prog (hC (mkIs l26 i26) (tabS T26)) gl ((ctlL Try.f26 gl s26 (sel l26 [0])).fz [40]) Try.f26 s26 = some S26 := by kernel_rfl
noncomputable def F26 : Fun := S26.run (lpF (l26.map (·.2)) (tabF T26)) true
theorem y26 : LoopsOk (lpF (l26.map (·.2)) (tabF T26)) ((ctlL Try.f26 gl s26 (sel l26 [0])).fz [40]) := fun p hp => y26l p (sel_mem hp)
theorem z26 : (wsEm S26.em (argI s26.args) (argB s26.args) && shOk s26 && s26.pre) = true := by kernel_rfl
theorem d26 : Contract Try.prog gl 26 s26 F26 := contract_pre h26 Try.func26 y26 k26 z26
theorem c26 : Contract Try.prog gl 26 s26 F26 := d26
theorem call26 : ∀ args w, (callFunc 26 args).run Try.prog w = .ok (.enter 26 args) w := callable_of Try.func26 (by kernel_rfl) (by kernel_rfl)
noncomputable def e26 : Nat × Sum × Fun := (26, s26, F26)
noncomputable def T27 : List (Nat × Sum × Fun) := e26 :: T26
theorem A27 : AllOk Try.prog (tabF T27) gl (tabS T27) := AllOk.cons (s := e26.2.1) c26 call26 (fun S h => by cases h) A26
/-! seepage/cells.Values -/
def s27 : Sum := { args := [(.val false [(.sl [(.int .u8), .bool])])], tup := false, res := [(false, [.str])], pre := true }
def S27 : Smry := (.mk [(.db 0 (.cm .geq (.v 1) (.c 0))), (.ob [] (.v 0)), (.db 1 (.cm .leq (.v 1) (.c 281474976710656))), (.ob [] (.v 1)), (.di 2 (.rep (.v 1) 1)), (.call 102700 [(.v 0), (.v 1), (.c 0), (.v 2), (.v 1)] [] 3 2 2 2), (.ob [] (.v 2))] [(.v 3)] [])
def L102700 : LAnn := { id := 102700, ga := [0, 1], gb := [], hv := [11], dr := [1, 6, 7, 8, 13, 14, 15, 16, 17, 18, 19, 20, 21, 22, 23], hb := [1], db := [], xs := [2], xb := [1], nI := 5, nB := 0, S := (.mk [(.db 0 (.cm .lss (.v 2) (.v 1))), (.db 1 (.cm .geq (.v 2) (.c 0))), (.ob [((.v 0), true)] (.v 1)), (.db 2 (.cm .lss (.v 2) (.v 1))), (.ob [((.v 0), true)] (.v 2)), (.di 5 (.get (.v 0) (.v 2) 2 0)), (.db 3 (.getb (.v 0) (.v 2) 2 1)), (.db 4 (.cm .geq (.v 2) (.c 0))), (.ob [((.v 0), true)] (.v 4)), (.db 5 (.cm .lss (.v 2) (.v 4))), (.ob [((.v 0), true)] (.v 5)), (.di 6 (.setq (.v 3) (.v 2) 1 0 (.v 5))), (.di 7 (.ar .add .i64 (.v 2) (.c 1))), (.db 6 (.not (.v 0)))] [(.v 0), (.v 1), (.v 7), (.v 6), (.v 4), (.v 3), (.v 4)] [(.v 0), (.v 6)]) }
def l27 : List (Nat × LAnn) := [(4, L102700)]
def i27 : List (Nat × List Nat × List Nat × List Nat × Bool) := [(31, [], [], [], false), (47, [], [], [], false), (32, [], [], [], false), (39, [], [], [], false), (34, [], [], [], false), (35, [], [], [], false), (50, [], [], [], false), (48, [], [], [], false), (54, [], [], [], true), (44, [], [], [], false), (42, [], [], [], false), (52, [], [], [], false), (53, [], [], [], false), (45, [], [], [], false)]
theorem x27 : AllOk Try.prog (lpF (l27.map (·.2)) (tabF T27)) gl (tabS T27) := (AllOk.loops (l := l27.map (·.2)) A27 (by kernel_rfl))
theorem y27l : LsOk (lpF (l27.map (·.2)) (tabF T27)) l27 := LoopsOk.of (fn := Try.f27) (gl := gl) (s := s27) (l := l27) (by kernel_rfl)
theorem h27 : HOk Try.prog (lpF (l27.map (·.2)) (tabF T27)) gl (hC (mkIs l27 i27) (tabS T27)) := hC_ok x27 (by kernel_rfl) (by kernel_rfl) (mkIs_ok y27l)
theorem k27 : fnX Try.prog (hC (mkIs l27 i27) (tabS T27)) gl (ctlL Try.f27 gl s27 (sel l27 [0])) Try.f27 s27 = some S27 := by kernel_rfl
noncomputable def F27 : Fun := S27.run (lpF (l27.map (·.2)) (tabF T27)) true
theorem y27 : LoopsOk (lpF (l27.map (·.2)) (tabF T27)) (ctlL Try.f27 gl s27 (sel l27 [0])) := fun p hp => y27l p (sel_mem hp)
theorem z27 : (wsEm S27.em (argI s27.args) (argB s27.args) && shOk s27 && s27.pre) = true := by kernel_rfl
theorem d27 : Contract Try.prog gl 27 s27 F27 := contract_pre h27 Try.func27 y27 k27 z27
theorem c27 : Contract Try.prog gl 27 s27 F27 := d27
theorem call27 : ∀ args w, (callFunc 27 args).run Try.prog w = .ok (.enter 27 args) w := callable_of Try.func27 (by kernel_rfl) (by kernel_rfl)
noncomputable def e27 : Nat × Sum × Fun := (27, s27, F27)
noncomputable def T28 : List (Nat × Sum × Fun) := e27 :: T27
theorem A28 : AllOk Try.prog (tabF T28) gl (tabS T28) := AllOk.cons (s := e27.2.1) c27 call27 (fun S h => by cases h) A27
/-! seepage/label.Erase -/
def s43 : Sum := { args := [(.val true [(.int .u8), .bool])], tup := false, res := [(true, [(.int .u8), .bool])], pre := false }
def S43 : Smry := (.mk [] [(.v 0)] [(.c false)])
def i43 : List (Nat × List Nat × List Nat × List Nat × Bool) := sp0
theorem x43 : AllOk Try.prog (tabF T28) gl (tabS T28) := A28
theorem y43l : LsOk (tabF T28) [] := fun p hp => by cases hp
theorem h43 : HOk Try.prog (tabF T28) gl (hC (mkIs [] i43) (tabS T28)) := hC_ok x43 (by kernel_rfl) (by kernel_rfl) (mkIs_ok y43l)
theorem k43 : fnX Try.prog (hC (mkIs [] i43) (tabS T28)) gl (ctlL Try.f43 gl s43 []) Try.f43 s43 = some S43 := by kernel_rfl
noncomputable def F43 : Fun := S43.run (tabF T28) false
theorem y43 : LoopsOk (tabF T28) (ctlL Try.f43 gl s43 []) := fun p hp => by cases hp
theorem z43 : (wsEm S43.em (argI s43.args) (argB s43.args) && shOk s43 && noOb S43.em) = true := by kernel_rfl
theorem d43 : Contract Try.prog gl 43 s43 F43 := contract_of h43 Try.func43 y43 k43 z43
theorem c43 : Contract Try.prog gl 43 s43 F43 := d43
theorem call43 : ∀ args w, (callFunc 43 args).run Try.prog w = .ok (.enter 43 args) w := callable_of Try.func43 (by kernel_rfl) (by kernel_rfl)
noncomputable def e43 : Nat × Sum × Fun := (43, withInl s43 S43, F43)
noncomputable def T29 : List (Nat × Sum × Fun) := e43 :: T28
theorem A29 : AllOk Try.prog (tabF T29) gl (tabS T29) := AllOk.cons (s := e43.2.1) c43 call43 (fun S h => by cases h; exact ⟨rfl, fun _ _ => rfl⟩) A28
/-! seepage/cells.Erase -/
def s28 : Sum := { args := [(.val false [(.sl [(.int .u8), .bool])])], tup := false, res := [(false, [(.sl [(.int .u8), .bool])])], pre := true }
def S28 : Smry := (.mk [(.db 0 (.cm .geq (.v 1) (.c 0))), (.ob [] (.v 0)), (.db 1 (.cm .leq (.v 1) (.c 140737488355328))), (.ob [] (.v 1)), (.di 2 (.rep (.v 1) 2)), (.call 102800 [(.v 0), (.v 1), (.c 0), (.v 2), (.v 1)] [] 3 2 2 2), (.ob [] (.v 2))] [(.v 3), (.v 4)] [])
def L102800 : LAnn := { id := 102800, ga := [0, 1], gb := [], hv := [11], dr := [1, 6, 7, 8, 13, 14, 15, 16, 17, 18, 19, 20, 21, 22], hb := [1], db := [], xs := [2], xb := [1], nI := 5, nB := 0, S := (.mk [(.db 0 (.cm .lss (.v 2) (.v 1))), (.db 1 (.cm .geq (.v 2) (.c 0))), (.ob [((.v 0), true)] (.v 1)), (.db 2 (.cm .lss (.v 2) (.v 1))), (.ob [((.v 0), true)] (.v 2)), (.di 5 (.get (.v 0) (.v 2) 2 0)), (.db 3 (.getb (.v 0) (.v 2) 2 1)), (.db 4 (.cm .geq (.v 2) (.c 0))), (.ob [((.v 0), true)] (.v 4)), (.db 5 (.cm .lss (.v 2) (.v 4))), (.ob [((.v 0), true)] (.v 5)), (.di 6 (.setq (.v 3) (.v 2) 2 0 (.v 5))), (.di 7 (.setq (.v 6) (.v 2) 2 1 (.c 0))), (.di 8 (.ar .add .i64 (.v 2) (.c 1))), (.db 6 (.not (.v 0)))] [(.v 0), (.v 1), (.v 8), (.v 7), (.v 4), (.v 3), (.v 4)] [(.v 0), (.v 6)]) }
def l28 : List (Nat × LAnn) := [(4, L102800)]
def i28 : List (Nat × List Nat × List Nat × List Nat × Bool) := [(31, [], [], [], false), (47, [], [], [], false), (32, [], [], [], false), (39, [], [], [], false), (34, [], [], [], false), (35, [], [], [], false), (50, [], [], [], false), (48, [], [], [], false), (54, [], [], [], true), (44, [], [], [], false), (42, [], [], [], false), (52, [], [], [], false), (53, [], [], [], false), (45, [], [], [], false)]
theorem x28 : AllOk Try.prog (lpF (l28.map (·.2)) (tabF T29)) gl (tabS T29) := (AllOk.loops (l := l28.map (·.2)) A29 (by kernel_rfl))
theorem y28l : LsOk (lpF (l28.map (·.2)) (tabF T29)) l28 := LoopsOk.of (fn := Try.f28) (gl := gl) (s := s28) (l := l28) (by kernel_rfl)
theorem h28 : HOk Try.prog (lpF (l28.map (·.2)) (tabF T29)) gl (hC (mkIs l28 i28) (tabS T29)) := hC_ok x28 (by kernel_rfl) (by kernel_rfl) (mkIs_ok y28l)
theorem k28 : fnX Try.prog (hC (mkIs l28 i28) (tabS T29)) gl (ctlL Try.f28 gl s28 (sel l28 [0])) Try.f28 s28 = some S28 := by kernel_rfl
noncomputable def F28 : Fun := S28.run (lpF (l28.map (·.2)) (tabF T29)) true
theorem y28 : LoopsOk (lpF (l28.map (·.2)) (tabF T29)) (ctlL Try.f28 gl s28 (sel l28 [0])) := fun p hp => y28l p (sel_mem hp)
theorem z28 : (wsEm S28.em (argI s28.args) (argB s28.args) && shOk s28 && s28.pre) = true := by kernel_rfl
theorem d28 : Contract Try.prog gl 28 s28 F28 := contract_pre h28 Try.func28 y28 k28 z28
theorem c28 : Contract Try.prog gl 28 s28 F28 := d28
theorem call28 : ∀ args w, (callFunc 28 args).run Try.prog w = .ok (.enter 28 args) w := callable_of Try.func28 (by kernel_rfl) (by kernel_rfl)
noncomputable def e28 : Nat × Sum × Fun := (28, s28, F28)
noncomputable def T30 : List (Nat × Sum × Fun) := e28 :: T29
theorem A30 : AllOk Try.prog (tabF T30) gl (tabS T30) := AllOk.cons (s := e28.2.1) c28 call28 (fun S h => by cases h) A29
/-! seepage/seepagelaw02.CellsMake -/
def s6 : Sum := { args := [(.val false [(.int .i64)]), (.val false [.str]), (.val false [(.sl [(.int .i64), (.int .i64)])])], tup := false, res := [(false, [.bool])], pre := true }
def S6 : Smry := (.mk [(.call 9 [(.v 2), (.v 3)] [] 4 2 0 1), (.ob [] (.v 0)), (.di 6 (.lenq (.v 1) 1)), (.db 1 (.cm .gtr (.v 6) (.c 300))), (.di 7 (.lenq (.v 1) 1)), (.db 2 (.cm .leq (.c 300) (.v 7))), (.ob [((.v 1), true)] (.v 2)), (.di 8 (.sub (.v 1) (.c 0) (.c 300) 1)), (.di 9 (.ite (.v 1) (.v 8) (.v 1))), (.call 23 [(.v 0), (.v 9), (.v 4), (.v 5)] [] 10 3 3 1), (.ob [] (.v 3)), (.db 4 (.cm .lss (.v 0) (.c 0))), (.db 5 (.cm .gtr (.v 0) (.c 65536))), (.db 6 (.or (.v 4) (.v 5))), (.di 13 (.lenq (.v 9) 1)), (.db 7 (.cm .gtr (.v 13) (.v 0))), (.db 8 (.or (.v 6) (.v 7))), (.call 12 [(.v 4), (.v 5)] [] 14 0 9 2), (.ob [((.v 8), false)] (.v 9)), (.db 11 (.not (.v 10))), (.db 12 (.or (.v 8) (.v 11))), (.db 13 (.cm .eql (.v 11) (.c 0))), (.db 14 (.cm .eql (.v 12) (.c 1))), (.db 15 (.and (.v 13) (.v 14))), (.call 16 [] [] 14 0 16 2), (.ob [((.v 12), true), ((.v 15), true)] (.v 16)), (.db 18 (.and (.v 15) (.v 17))), (.call 24 [(.v 0), (.v 9), (.v 4), (.v 5)] [] 14 2 19 1), (.ob [((.v 12), false)] (.v 19)), (.call 22 [(.v 10), (.v 11), (.v 14), (.v 15)] [] 16 0 20 2), (.ob [((.v 12), false)] (.v 20)), (.db 22 (.not (.v 21))), (.db 23 (.cm .neq (.v 12) (.c 0))), (.db 24 (.or (.v 22) (.v 23))), (.call 25 [(.v 10), (.v 11)] [] 16 2 25 1), (.ob [((.v 12), false), ((.v 24), false)] (.v 25)), (.call 26 [(.v 14), (.v 15)] [] 18 2 26 1), (.ob [((.v 12), false), ((.v 24), false)] (.v 26)), (.call 17 [(.v 16), (.v 17), (.v 18), (.v 19)] [] 20 0 27 2), (.ob [((.v 12), false), ((.v 24), false)] (.v 27)), (.db 29 (.not (.v 28))), (.db 30 (.or (.v 24) (.v 29))), (.call 27 [(.v 10), (.v 11)] [] 20 1 31 1), (.ob [((.v 12), false), ((.v 30), false)] (.v 31)), (.call 28 [(.v 10), (.v 11)] [] 21 2 32 1), (.ob [((.v 12), false), ((.v 30), false)] (.v 32)), (.di 23 (.lenq (.v 20) 1)), (.db 33 (.cm .neq (.v 23) (.v 0))), (.db 34 (.cm .neq (.v 22) (.v 0))), (.db 35 (.or (.v 33) (.v 34))), (.call 100600 [(.v 0), (.v 14), (.v 15), (.v 20), (.v 21), (.v 22), (.c 0)] [] 24 0 36 3), (.ob [((.v 12), false), ((.v 30), false), ((.v 35), false)] (.v 36)), (.call 16 [] [] 24 0 39 2), (.ob [((.v 12), false), ((.v 30), false), ((.v 35), false), ((.v 38), true)] (.v 39)), (.db 41 (.and (.v 38) (.v 40))), (.db 42 (.not (.v 35))), (.db 43 (.and (.v 42) (.v 41))), (.db 44 (.not (.v 30))), (.db 45 (.and (.v 44) (.v 43))), (.db 46 (.not (.v 12))), (.db 47 (.ite (.v 46) (.v 45) (.v 18)))] [] [(.v 47)])
def L100600 : LAnn := { id := 100600, ga := [0, 14, 15, 20, 21, 22], gb := [], hv := [12], dr := [3, 4, 5, 13, 14, 15, 16, 18, 19, 20, 21, 22, 23, 24, 25, 26, 27, 28, 29, 30, 31, 32, 33, 34, 35, 36, 37, 38, 39, 40, 41, 42, 44, 45, 46, 47, 48, 49, 50, 51, 52, 53, 54, 55, 56, 57, 58, 59, 60, 61, 62, 63, 64, 65, 66, 67, 68, 69, 70, 71, 72, 74, 75, 76, 77, 78, 79, 80, 81, 82, 83, 84, 85, 86, 88, 89, 91, 92, 93, 94, 95, 96, 97, 98, 99, 100, 101, 102, 103, 104, 105, 106, 107, 108, 109, 110, 111, 112, 113, 115], hb := [], db := [], xs := [6], xb := [], nI := 7, nB := 0, S := (.mk [(.db 0 (.cm .lss (.v 6) (.v 0))), (.db 1 (.cm .geq (.v 6) (.c 0))), (.ob [((.v 0), true)] (.v 1)), (.di 7 (.lenq (.v 3) 1)), (.db 2 (.cm .lss (.v 6) (.v 7))), (.ob [((.v 0), true)] (.v 2)), (.di 8 (.get (.v 3) (.v 6) 1 0)), (.db 3 (.cm .geq (.v 6) (.c 0))), (.ob [((.v 0), true)] (.v 3)), (.db 4 (.cm .lss (.v 6) (.v 2))), (.ob [((.v 0), true)] (.v 4)), (.di 9 (.get (.v 1) (.v 6) 2 0)), (.db 5 (.cm .neq (.v 8) (.v 9))), (.db 6 (.cm .geq (.v 6) (.c 0))), (.ob [((.v 0), true), ((.v 5), false)] (.v 6)), (.db 7 (.cm .lss (.v 6) (.v 5))), (.ob [((.v 0), true), ((.v 5), false)] (.v 7)), (.di 10 (.get (.v 4) (.v 6) 2 0)), (.db 8 (.getb (.v 4) (.v 6) 2 1)), (.db 9 (.cm .geq (.v 6) (.c 0))), (.ob [((.v 0), true), ((.v 5), false)] (.v 9)), (.db 10 (.cm .lss (.v 6) (.v 2))), (.ob [((.v 0), true), ((.v 5), false)] (.v 10)), (.di 11 (.get (.v 1) (.v 6) 2 0)), (.db 11 (.cm .eql (.v 10) (.v 11))), (.db 12 (.eqb (.v 8) (.c false))), (.db 13 (.and (.v 11) (.v 12))), (.db 14 (.not (.v 13))), (.db 15 (.or (.v 5) (.v 14))), (.di 12 (.ar .add .i64 (.v 6) (.c 1))), (.db 16 (.not (.v 15))), (.db 17 (.not (.v 15))), (.db 18 (.and (.v 0) (.v 17))), (.db 19 (.and (.v 0) (.v 15))), (.db 20 (.not (.v 0)))] [(.v 0), (.v 1), (.v 2), (.v 3), (.v 4), (.v 5), (.v 12)] [(.v 18), (.v 19), (.v 20)]) }
def l6 : List (Nat × LAnn) := [(15, L100600)]
def i6 : List (Nat × List Nat × List Nat × List Nat × Bool) := [(31, [], [], [], false), (47, [], [], [], false), (32, [], [], [], false), (39, [], [], [], false), (34, [], [], [], false), (35, [], [], [], false), (50, [], [], [], false), (48, [], [], [], false), (54, [], [], [], true), (44, [], [], [], false), (42, [], [], [], false), (52, [], [], [], false), (53, [], [], [], false), (45, [], [], [], false)]
theorem x6 : AllOk Try.prog (lpF (l6.map (·.2)) (tabF T30)) gl (tabS T30) := (AllOk.loops (l := l6.map (·.2)) A30 (by kernel_rfl))
theorem y6l : LsOk (lpF (l6.map (·.2)) (tabF T30)) l6 := LoopsOk.of (fn := Try.f6) (gl := gl) (s := s6) (l := l6) (by kernel_rfl)
theorem h6 : HOk Try.prog (lpF (l6.map (·.2)) (tabF T30)) gl (hC (mkIs l6 i6) (tabS T30)) := hC_ok x6 (by kernel_rfl) (by kernel_rfl) (mkIs_ok y6l)
theorem k6 : fnX Try.prog (hC (mkIs l6 i6) (tabS T30)) gl (ctlL Try.f6 gl s6 (sel l6 [0])) Try.f6 s6 = some S6 := by kernel_rfl
noncomputable def F6 : Fun := S6.run (lpF (l6.map (·.2)) (tabF T30)) true
theorem y6 : LoopsOk (lpF (l6.map (·.2)) (tabF T30)) (ctlL Try.f6 gl s6 (sel l6 [0])) := fun p hp => y6l p (sel_mem hp)
theorem z6 : (wsEm S6.em (argI s6.args) (argB s6.args) && shOk s6 && s6.pre) = true := by kernel_rfl
theorem d6 : Contract Try.prog gl 6 s6 F6 := contract_pre h6 Try.func6 y6 k6 z6
theorem c6 : Contract Try.prog gl 6 s6 F6 := d6
theorem call6 : ∀ args w, (callFunc 6 args).run Try.prog w = .ok (.enter 6 args) w := callable_of Try.func6 (by kernel_rfl) (by kernel_rfl)
noncomputable def e6 : Nat × Sum × Fun := (6, s6, F6)
noncomputable def T31 : List (Nat × Sum × Fun) := e6 :: T30
theorem A31 : AllOk Try.prog (tabF T31) gl (tabS T31) := AllOk.cons (s := e6.2.1) c6 call6 (fun S h => by cases h) A30
/-! seepage/seepagelaw02.CellsSecrets -/
def s7 : Sum := { args := [(.val false [(.sl [(.int .u8), .bool])])], tup := false, res := [(false, [.bool])], pre := true }
def S7 : Smry := (.mk [(.call 19 [(.v 0), (.v 1)] [] 2 2 0 1), (.ob [] (.v 0)), (.call 25 [(.v 2), (.v 3)] [] 4 2 1 1), (.ob [] (.v 1)), (.call 27 [(.v 2), (.v 3)] [] 6 1 2 1), (.ob [] (.v 2)), (.call 23 [(.v 3), (.v 6), (.v 4), (.v 5)] [] 7 3 3 1), (.ob [] (.v 3)), (.call 11 [(.v 4), (.v 5)] [] 10 1 4 1), (.ob [] (.v 4)), (.db 5 (.cm .eql (.v 10) (.c 0))), (.db 6 (.cm .eql (.v 9) (.c 0))), (.db 7 (.and (.v 5) (.v 6))), (.call 22 [(.v 7), (.v 8), (.v 2), (.v 3)] [] 11 0 8 2), (.ob [((.v 7), true)] (.v 8)), (.db 10 (.and (.v 7) (.v 9))), (.call 28 [(.v 2), (.v 3)] [] 11 2 11 1), (.ob [((.v 10), true)] (.v 11)), (.call 25 [(.v 11), (.v 12)] [] 13 2 12 1), (.ob [((.v 10), true)] (.v 12)), (.db 13 (.cm .eql (.v 14) (.c 0))), (.db 14 (.and (.v 10) (.v 13))), (.call 16 [] [] 15 0 15 2), (.ob [((.v 14), true)] (.v 15)), (.db 17 (.and (.v 14) (.v 16)))] [] [(.v 17)])
def i7 : List (Nat × List Nat × List Nat × List Nat × Bool) := sp0
theorem x7 : AllOk Try.prog (tabF T31) gl (tabS T31) := A31
theorem y7l : LsOk (tabF T31) [] := fun p hp => by cases hp
theorem h7 : HOk Try.prog (tabF T31) gl (hC (mkIs [] i7) (tabS T31)) := hC_ok x7 (by kernel_rfl) (by kernel_rfl) (mkIs_ok y7l)
theorem k7 : fnX Try.prog (hC (mkIs [] i7) (tabS T31)) gl (ctlL Try.f7 gl s7 []) Try.f7 s7 = some S7 := by kernel_rfl
noncomputable def F7 : Fun := S7.run (tabF T31) true
theorem y7 : LoopsOk (tabF T31) (ctlL Try.f7 gl s7 []) := fun p hp => by cases hp
theorem z7 : (wsEm S7.em (argI s7.args) (argB s7.args) && shOk s7 && s7.pre) = true := by kernel_rfl
theorem d7 : Contract Try.prog gl 7 s7 F7 := contract_pre h7 Try.func7 y7 k7 z7
theorem c7 : Contract Try.prog gl 7 s7 F7 := d7
theorem call7 : ∀ args w, (callFunc 7 args).run Try.prog w = .ok (.enter 7 args) w := callable_of Try.func7 (by kernel_rfl) (by kernel_rfl)
noncomputable def e7 : Nat × Sum × Fun := (7, s7, F7)
noncomputable def T32 : List (Nat × Sum × Fun) := e7 :: T31
theorem A32 : AllOk Try.prog (tabF T32) gl (tabS T32) := AllOk.cons (s := e7.2.1) c7 call7 (fun S h => by cases h) A31
/-! seepage/cells.Alike -/
def s29 : Sum := { args := [(.val false [(.sl [(.int .u8), .bool])]), (.val false [(.sl [(.int .u8), .bool])])], tup := false, res := [(false, [.bool])], pre := true }
def S29 : Smry := (.mk [(.db 0 (.cm .neq (.v 1) (.v 3))), (.call 102900 [(.v 0), (.v 1), (.v 2), (.v 3), (.c 0)] [] 4 0 1 3), (.ob [((.v 0), false)] (.v 1)), (.db 4 (.not (.v 0))), (.db 5 (.and (.v 4) (.v 3)))] [] [(.v 5)])
def L102900 : LAnn := { id := 102900, ga := [0, 1, 2, 3], gb := [], hv := [17], dr := [3, 4, 5, 10, 11, 12, 13, 19, 20, 21, 22, 23, 24, 25, 26, 27, 28, 29, 31], hb := [], db := [], xs := [6], xb := [], nI := 5, nB := 0, S := (.mk [(.db 0 (.cm .lss (.v 4) (.v 1))), (.db 1 (.cm .geq (.v 4) (.c 0))), (.ob [((.v 0), true)] (.v 1)), (.db 2 (.cm .lss (.v 4) (.v 1))), (.ob [((.v 0), true)] (.v 2)), (.di 5 (.get (.v 0) (.v 4) 2 0)), (.db 3 (.getb (.v 0) (.v 4) 2 1)), (.db 4 (.cm .geq (.v 4) (.c 0))), (.ob [((.v 0), true)] (.v 4)), (.db 5 (.cm .lss (.v 4) (.v 3))), (.ob [((.v 0), true)] (.v 5)), (.di 6 (.get (.v 2) (.v 4) 2 0)), (.db 6 (.getb (.v 2) (.v 4) 2 1)), (.db 7 (.eqb (.v 3) (.v 6))), (.db 8 (.cm .eql (.v 5) (.v 6))), (.db 9 (.or (.v 3) (.v 8))), (.db 10 (.and (.v 7) (.v 9))), (.db 11 (.not (.v 10))), (.di 7 (.ar .add .i64 (.v 4) (.c 1))), (.db 12 (.not (.v 11))), (.db 13 (.not (.v 11))), (.db 14 (.and (.v 0) (.v 13))), (.db 15 (.and (.v 0) (.v 11))), (.db 16 (.not (.v 0)))] [(.v 0), (.v 1), (.v 2), (.v 3), (.v 7)] [(.v 14), (.v 15), (.v 16)]) }
def l29 : List (Nat × LAnn) := [(5, L102900)]
def i29 : List (Nat × List Nat × List Nat × List Nat × Bool) := [(31, [], [], [], false), (47, [], [], [], false), (32, [], [], [], false), (39, [], [], [], false), (34, [], [], [], false), (35, [], [], [], false), (50, [], [], [], false), (48, [], [], [], false), (54, [], [], [], true), (44, [0], [], [], false), (42, [], [], [], false), (52, [], [], [], false), (53, [], [], [], false), (45, [], [], [], false)]
theorem x29 : AllOk Try.prog (lpF (l29.map (·.2)) (tabF T32)) gl (tabS T32) := (AllOk.loops (l := l29.map (·.2)) A32 (by kernel_rfl))
theorem y29l : LsOk (lpF (l29.map (·.2)) (tabF T32)) l29 := LoopsOk.of (fn := Try.f29) (gl := gl) (s := s29) (l := l29) (by kernel_rfl)
theorem h29 : HOk Try.prog (lpF (l29.map (·.2)) (tabF T32)) gl (hC (mkIs l29 i29) (tabS T32)) := hC_ok x29 (by kernel_rfl) (by kernel_rfl) (mkIs_ok y29l)
theorem k29 : fnX Try.prog (hC (mkIs l29 i29) (tabS T32)) gl (ctlL Try.f29 gl s29 (sel l29 [])) Try.f29 s29 = some S29 := by kernel_rfl
noncomputable def F29 : Fun := S29.run (lpF (l29.map (·.2)) (tabF T32)) true
theorem y29 : LoopsOk (lpF (l29.map (·.2)) (tabF T32)) (ctlL Try.f29 gl s29 (sel l29 [])) := fun p hp => y29l p (sel_mem hp)
theorem z29 : (wsEm S29.em (argI s29.args) (argB s29.args) && shOk s29 && s29.pre) = true := by kernel_rfl
theorem d29 : Contract Try.prog gl 29 s29 F29 := contract_pre h29 Try.func29 y29 k29 z29
theorem c29 : Contract Try.prog gl 29 s29 F29 := d29
theorem call29 : ∀ args w, (callFunc 29 args).run Try.prog w = .ok (.enter 29 args) w := callable_of Try.func29 (by kernel_rfl) (by kernel_rfl)
noncomputable def e29 : Nat × Sum × Fun := (29, s29, F29)
noncomputable def T33 : List (Nat × Sum × Fun) := e29 :: T32
theorem A33 : AllOk Try.prog (tabF T33) gl (tabS T33) := AllOk.cons (s := e29.2.1) c29 call29 (fun S h => by cases h) A32
/-! seepage/seepageref01.Alike -/
def s46 : Sum := { args := [(.val true [(.int .u8), .bool]), (.val true [(.int .u8), .bool])], tup := false, res := [(false, [.bool])], pre := false }
def S46 : Smry := (.mk [(.db 2 (.or (.v 0) (.v 1))), (.db 3 (.and (.v 0) (.v 1))), (.db 4 (.cm .eql (.v 0) (.v 1))), (.db 5 (.not (.v 2))), (.db 6 (.ite (.v 5) (.v 4) (.v 3)))] [] [(.v 6)])
def i46 : List (Nat × List Nat × List Nat × List Nat × Bool) := sp0
theorem x46 : AllOk Try.prog (tabF T33) gl (tabS T33) := A33
theorem y46l : LsOk (tabF T33) [] := fun p hp => by cases hp
theorem h46 : HOk Try.prog (tabF T33) gl (hC (mkIs [] i46) (tabS T33)) := hC_ok x46 (by kernel_rfl) (by kernel_rfl) (mkIs_ok y46l)
theorem k46 : fnX Try.prog (hC (mkIs [] i46) (tabS T33)) gl (ctlL Try.f46 gl s46 []) Try.f46 s46 = some S46 := by kernel_rfl
noncomputable def F46 : Fun := S46.run (tabF T33) false
theorem y46 : LoopsOk (tabF T33) (ctlL Try.f46 gl s46 []) := fun p hp => by cases hp
theorem z46 : (wsEm S46.em (argI s46.args) (argB s46.args) && shOk s46 && noOb S46.em) = true := by kernel_rfl
theorem d46 : Contract Try.prog gl 46 s46 F46 := contract_of h46 Try.func46 y46 k46 z46
theorem c46 : Contract Try.prog gl 46 s46 F46 := d46
theorem call46 : ∀ args w, (callFunc 46 args).run Try.prog w = .ok (.enter 46 args) w := callable_of Try.func46 (by kernel_rfl) (by kernel_rfl)
noncomputable def e46 : Nat × Sum × Fun := (46, withInl s46 S46, F46)
noncomputable def T34 : List (Nat × Sum × Fun) := e46 :: T33
theorem A34 : AllOk Try.prog (tabF T34) gl (tabS T34) := AllOk.cons (s := e46.2.1) c46 call46 (fun S h => by cases h; exact ⟨rfl, fun _ _ => rfl⟩) A33
/-! seepage/seepageref02.Alike -/
def s30 : Sum := { args := [(.val false [(.sl [(.int .u8), .bool])]), (.val false [(.sl [(.int .u8), .bool])])], tup := false, res := [(false, [.bool])], pre := true }
def S30 : Smry := (.mk [(.db 0 (.cm .neq (.v 1) (.v 3))), (.call 103000 [(.v 0), (.v 1), (.v 2), (.v 3), (.c 0)] [] 4 0 1 3), (.ob [((.v 0), false)] (.v 1)), (.db 4 (.not (.v 0))), (.db 5 (.and (.v 4) (.v 3)))] [] [(.v 5)])
def L103000 : LAnn := { id := 103000, ga := [0, 1, 2, 3], gb := [], hv := [5], dr := [2, 3, 6, 7, 8, 9, 11, 12, 13, 15, 16, 17, 18, 19, 20, 21, 22, 23, 24, 25], hb := [], db := [], xs := [4], xb := [], nI := 5, nB := 0, S := (.mk [(.db 0 (.cm .lss (.v 4) (.v 1))), (.db 1 (.cm .geq (.v 4) (.c 0))), (.ob [((.v 0), true)] (.v 1)), (.db 2 (.cm .lss (.v 4) (.v 1))), (.ob [((.v 0), true)] (.v 2)), (.di 5 (.get (.v 0) (.v 4) 2 0)), (.db 3 (.getb (.v 0) (.v 4) 2 1)), (.db 4 (.cm .geq (.v 4) (.c 0))), (.ob [((.v 0), true)] (.v 4)), (.db 5 (.cm .lss (.v 4) (.v 3))), (.ob [((.v 0), true)] (.v 5)), (.di 6 (.get (.v 2) (.v 4) 2 0)), (.db 6 (.getb (.v 2) (.v 4) 2 1)), (.db 7 (.or (.v 3) (.v 6))), (.db 8 (.and (.v 3) (.v 6))), (.db 9 (.cm .eql (.v 5) (.v 6))), (.db 10 (.not (.v 7))), (.db 11 (.ite (.v 10) (.v 9) (.v 8))), (.db 12 (.not (.v 11))), (.di 7 (.ar .add .i64 (.v 4) (.c 1))), (.db 13 (.not (.v 12))), (.db 14 (.not (.v 12))), (.db 15 (.and (.v 0) (.v 14))), (.db 16 (.and (.v 0) (.v 12))), (.db 17 (.not (.v 0)))] [(.v 0), (.v 1), (.v 2), (.v 3), (.v 7)] [(.v 15), (.v 16), (.v 17)]) }
def l30 : List (Nat × LAnn) := [(5, L103000)]
def i30 : List (Nat × List Nat × List Nat × List Nat × Bool) := [(31, [], [], [], false), (47, [], [], [], false), (32, [], [], [], false), (39, [], [], [], false), (34, [], [], [], false), (35, [], [], [], false), (50, [], [], [], false), (48, [], [], [], false), (54, [], [], [], true), (44, [], [], [], false), (42, [], [], [], false), (52, [], [], [], false), (53, [], [], [], false), (45, [], [], [], false)]
theorem x30 : AllOk Try.prog (lpF (l30.map (·.2)) (tabF T34)) gl (tabS T34) := (AllOk.loops (l := l30.map (·.2)) A34 (by kernel_rfl))
theorem y30l : LsOk (lpF (l30.map (·.2)) (tabF T34)) l30 := LoopsOk.of (fn := Try.f30) (gl := gl) (s := s30) (l := l30) (by kernel_rfl)
theorem h30 : HOk Try.prog (lpF (l30.map (·.2)) (tabF T34)) gl (hC (mkIs l30 i30) (tabS T34)) := hC_ok x30 (by kernel_rfl) (by kernel_rfl) (mkIs_ok y30l)
theorem k30 : fnX Try.prog (hC (mkIs l30 i30) (tabS T34)) gl (ctlL Try.f30 gl s30 (sel l30 [0])) Try.f30 s30 = some S30 := by kernel_rfl
noncomputable def F30 : Fun := S30.run (lpF (l30.map (·.2)) (tabF T34)) true
theorem y30 : LoopsOk (lpF (l30.map (·.2)) (tabF T34)) (ctlL Try.f30 gl s30 (sel l30 [0])) := fun p hp => y30l p (sel_mem hp)
theorem z30 : (wsEm S30.em (argI s30.args) (argB s30.args) && shOk s30 && s30.pre) = true := by kernel_rfl
theorem d30 : Contract Try.prog gl 30 s30 F30 := contract_pre h30 Try.func30 y30 k30 z30
theorem c30 : Contract Try.prog gl 30 s30 F30 := d30
theorem call30 : ∀ args w, (callFunc 30 args).run Try.prog w = .ok (.enter 30 args) w := callable_of Try.func30 (by kernel_rfl) (by kernel_rfl)
noncomputable def e30 : Nat × Sum × Fun := (30, s30, F30)
noncomputable def T35 : List (Nat × Sum × Fun) := e30 :: T34
theorem A35 : AllOk Try.prog (tabF T35) gl (tabS T35) := AllOk.cons (s := e30.2.1) c30 call30 (fun S h => by cases h) A34
/-! seepage/seepagelaw02.CellsAlike -/
def s8 : Sum := { args := [(.val false [(.sl [(.int .u8), .bool])]), (.val false [(.sl [(.int .u8), .bool])]), (.val true [(.int .i64), (.int .u8), .bool, (.int .u8), .bool])], tup := false, res := [(false, [.bool])], pre := true }
def S8 : Smry := (.mk [(.call 19 [(.v 0), (.v 1)] [] 7 2 2 1), (.ob [] (.v 2)), (.call 19 [(.v 2), (.v 3)] [] 9 2 3 1), (.ob [] (.v 3)), (.call 29 [(.v 7), (.v 8), (.v 9), (.v 10)] [] 11 0 4 2), (.ob [] (.v 4)), (.call 30 [(.v 7), (.v 8), (.v 9), (.v 10)] [] 11 0 6 2), (.ob [] (.v 6)), (.db 8 (.eqb (.v 5) (.v 7))), (.db 9 (.not (.v 8))), (.call 30 [(.v 7), (.v 8), (.v 9), (.v 10)] [] 11 0 10 2), (.ob [((.v 9), false)] (.v 10)), (.db 12 (.not (.v 11))), (.db 13 (.eqb (.v 0) (.v 1))), (.db 14 (.not (.v 13))), (.db 15 (.or (.v 12) (.v 14))), (.db 16 (.not (.v 0))), (.db 17 (.cm .neq (.v 5) (.v 6))), (.db 18 (.and (.v 16) (.v 17))), (.db 19 (.or (.v 15) (.v 18))), (.call 16 [] [] 11 0 20 2), (.ob [((.v 9), false), ((.v 19), true)] (.v 20)), (.call 21 [(.v 7), (.v 8), (.v 4), (.v 5)] [(.v 0)] 11 3 22 1), (.ob [((.v 9), false), ((.v 19), false)] (.v 22)), (.call 21 [(.v 9), (.v 10), (.v 4), (.v 6)] [(.v 1)] 14 3 23 1), (.ob [((.v 9), false), ((.v 19), false)] (.v 23)), (.db 24 (.cm .eql (.v 13) (.v 16))), (.call 30 [(.v 11), (.v 12), (.v 14), (.v 15)] [] 17 0 25 2), (.ob [((.v 9), false), ((.v 19), false), ((.v 24), true)] (.v 25)), (.db 27 (.and (.v 24) (.v 26))), (.call 29 [(.v 11), (.v 12), (.v 14), (.v 15)] [] 17 0 28 2), (.ob [((.v 9), false), ((.v 19), false), ((.v 27), true)] (.v 28)), (.db 30 (.and (.v 27) (.v 29))), (.call 25 [(.v 11), (.v 12)] [] 17 2 31 1), (.ob [((.v 9), false), ((.v 19), false), ((.v 30), true)] (.v 31)), (.call 25 [(.v 14), (.v 15)] [] 19 2 32 1), (.ob [((.v 9), false), ((.v 19), false), ((.v 30), true)] (.v 32)), (.call 17 [(.v 17), (.v 18), (.v 19), (.v 20)] [] 21 0 33 2), (.ob [((.v 9), false), ((.v 19), false), ((.v 30), true)] (.v 33)), (.db 35 (.and (.v 30) (.v 34))), (.call 16 [] [] 21 0 36 2), (.ob [((.v 9), false), ((.v 19), false), ((.v 35), true)] (.v 36)), (.db 38 (.and (.v 35) (.v 37))), (.db 39 (.not (.v 19))), (.db 40 (.ite (.v 39) (.v 38) (.v 21))), (.db 41 (.not (.v 9))), (.db 42 (.and (.v 41) (.v 40)))] [] [(.v 42)])
def i8 : List (Nat × List Nat × List Nat × List Nat × Bool) := sp0
theorem x8 : AllOk Try.prog (tabF T35) gl (tabS T35) := A35
theorem y8l : LsOk (tabF T35) [] := fun p hp => by cases hp
theorem h8 : HOk Try.prog (tabF T35) gl (hC (mkIs [] i8) (tabS T35)) := hC_ok x8 (by kernel_rfl) (by kernel_rfl) (mkIs_ok y8l)
theorem k8 : fnX Try.prog (hC (mkIs [] i8) (tabS T35)) gl (ctlL Try.f8 gl s8 []) Try.f8 s8 = some S8 := by kernel_rfl
noncomputable def F8 : Fun := S8.run (tabF T35) true
theorem y8 : LoopsOk (tabF T35) (ctlL Try.f8 gl s8 []) := fun p hp => by cases hp
theorem z8 : (wsEm S8.em (argI s8.args) (argB s8.args) && shOk s8 && s8.pre) = true := by kernel_rfl
theorem d8 : Contract Try.prog gl 8 s8 F8 := contract_pre h8 Try.func8 y8 k8 z8
theorem c8 : Contract Try.prog gl 8 s8 F8 := d8
theorem call8 : ∀ args w, (callFunc 8 args).run Try.prog w = .ok (.enter 8 args) w := callable_of Try.func8 (by kernel_rfl) (by kernel_rfl)
noncomputable def e8 : Nat × Sum × Fun := (8, s8, F8)
noncomputable def T36 : List (Nat × Sum × Fun) := e8 :: T35
theorem A36 : AllOk Try.prog (tabF T36) gl (tabS T36) := AllOk.cons (s := e8.2.1) c8 call8 (fun S h => by cases h) A35
end Go.Proofs.Ytgbgibbonhklgaa.Ce
