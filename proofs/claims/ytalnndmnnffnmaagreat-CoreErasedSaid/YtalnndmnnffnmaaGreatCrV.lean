/-
  The walks of core's laws: what values each function's numbers may have, from what is known of its arguments. WRITTEN BY PROGRAM (wip/gen/crv.py). No condition.
-/
import Derived.Test.YtalnndmnnffnmaaGreatCrS6
import Derived.Test.YtalnndmnnffnmaaGreatCrW
set_option linter.unusedVariables false
set_option linter.unusedSimpArgs false
namespace Go.Proofs.YtalnndmnnffnmaaGreat.Cr
open Go Go.Proofs Go.Proofs.YtalnndmnnffnmaaGreat.Sx

noncomputable def V25 : VF := (VF.at0 dec).split 0
theorem v25 : VOk F25 V25 := VF.at0_ok.split 0
noncomputable def TV0 : List (Nat × VF) := []
theorem vt0 : ∀ f, VOk (tabF T0 f) (tabV TV0 f) := tabV_nil
noncomputable def TV1 : List (Nat × VF) := (25, V25) :: TV0
theorem vt1 : ∀ f, VOk (tabF T1 f) (tabV TV1 f) := tabV_cons v25 vt0
/-! seepage/alu.Check -/
noncomputable def V37 : VF := S37.va (tabV TV1) false
theorem v37 : VOk F37 V37 := Smry.va_ok vt1
noncomputable def TV2 : List (Nat × VF) := (37, V37) :: TV1
theorem vt2 : ∀ f, VOk (tabF T2 f) (tabV TV2 f) := tabV_cons v37 vt1
/-! seepage/core.Check -/
theorem eta {α : Type} (d : α) {n : Nat} {l : List α} (h : l.length = n) : l = (List.range n).map fun j => l.getD j d := by
  apply List.ext_getElem
  · simp [h]
  · intro j h1 h2
    simp [h1]
def sig15 : List VI := [VI.top, VI.top, VI.top, VI.top, VI.msk 207, VI.msk 207, VI.top, VI.top, VI.top, VI.top, VI.top, VI.of [0, 1, 2, 3], VI.of [0, 1, 2]]
def okC (li : List VI) : Bool := leI li sig15 && (match (li.getD 7 VI.top).vs, (li.getD 8 VI.top).vs with
  | some O, some T => O.all fun o => T.all fun t => tmay o t
  | _, _ => false)
/-- What the check's numbers are, as numbers. -/
theorem okC_ok {li : List VI} {is : List Int} (h : okC li = true) (hi : VwI li is) : li.length = 13 ∧ may (is.getD 4 0) (is.getD 5 0) (is.getD 7 0) (is.getD 8 0) (is.getD 11 0) (is.getD 12 0) = true := by
  unfold okC at h
  simp only [Bool.and_eq_true] at h
  obtain ⟨hs, hp⟩ := h
  obtain ⟨hw, hlen⟩ := leI_ok hs hi
  refine ⟨hlen.trans rfl, ?_⟩
  have m4 : arI .and .u8 (is.getD 4 0) 207 = is.getD 4 0 := (hw 4).2 207 rfl
  have m5 : arI .and .u8 (is.getD 5 0) 207 = is.getD 5 0 := (hw 5).2 207 rfl
  have a11 : is.getD 11 0 ∈ [(0 : Int), 1, 2, 3] := (hw 11).1 _ rfl
  have a12 : is.getD 12 0 ∈ [(0 : Int), 1, 2] := (hw 12).1 _ rfl
  unfold may
  simp only [Bool.and_eq_true, decide_eq_true_eq]
  simp only [List.mem_cons, List.not_mem_nil, or_false] at a11 a12
  refine ⟨⟨⟨⟨?_, by omega⟩, by omega⟩, m4⟩, m5⟩
  split at hp
  · rename_i O T hO hT
    exact List.all_eq_true.1 (List.all_eq_true.1 hp _ ((hi 7).1 O hO)) _ ((hi 8).1 T hT)
  · cases hp
noncomputable def V15 : VF := fun li lb => if okC li && Nat.beq lb.length 12 then ([VI.cst 0], []) else S15.va (tabV TV2) false li lb
theorem v15 : VOk F15 V15 := by
  intro li lb is bs h1 h2 hi hb
  unfold V15
  split
  · rename_i h
    simp only [Bool.and_eq_true, Nat.beq_eq] at h
    obtain ⟨hl, hm⟩ := okC_ok h.1 hi
    rw [eta 0 (h1.trans hl), eta false (h2.trans h.2)]
    show VwI [VI.cst 0] (F15 [is.getD 0 0, is.getD 1 0, is.getD 2 0, is.getD 3 0, is.getD 4 0, is.getD 5 0, is.getD 6 0, is.getD 7 0, is.getD 8 0, is.getD 9 0, is.getD 10 0, is.getD 11 0, is.getD 12 0]
      [bs.getD 0 false, bs.getD 1 false, bs.getD 2 false, bs.getD 3 false, bs.getD 4 false, bs.getD 5 false, bs.getD 6 false, bs.getD 7 false, bs.getD 8 false, bs.getD 9 false, bs.getD 10 false, bs.getD 11 false]).1 ∧ _
    rw [w15, if_pos hm]
    exact ⟨Vw.cons VI.cst_ok VwI.nil, VwB.nil⟩
  · exact Smry.va_ok vt2 li lb is bs h1 h2 hi hb
noncomputable def TV3 : List (Nat × VF) := (15, V15) :: TV2
theorem vt3 : ∀ f, VOk (tabF T3 f) (tabV TV3 f) := tabV_cons v15 vt2
/-! seepage/core.New -/
noncomputable def V23 : VF := S23.va (tabV TV3) false
theorem v23 : VOk F23 V23 := Smry.va_ok vt3
noncomputable def TV4 : List (Nat × VF) := (23, V23) :: TV3
theorem vt4 : ∀ f, VOk (tabF T4 f) (tabV TV4 f) := tabV_cons v23 vt3
/-! seepage/label.Split -/
noncomputable def V57 : VF := S57.va (tabV TV4) false
theorem v57 : VOk F57 V57 := Smry.va_ok vt4
noncomputable def TV5 : List (Nat × VF) := (57, V57) :: TV4
theorem vt5 : ∀ f, VOk (tabF T5 f) (tabV TV5 f) := tabV_cons v57 vt4
/-! (*seepage/core.work).push -/
noncomputable def V32 : VF := S32.va (tabV TV5) false
theorem v32 : VOk F32 V32 := Smry.va_ok vt5
noncomputable def TV6 : List (Nat × VF) := (32, V32) :: TV5
theorem vt6 : ∀ f, VOk (tabF T6 f) (tabV TV6 f) := tabV_cons v32 vt5
/-! seepage/alu.Push -/
noncomputable def V58 : VF := S58.va (tabV TV6) false
theorem v58 : VOk F58 V58 := Smry.va_ok vt6
noncomputable def TV7 : List (Nat × VF) := (58, V58) :: TV6
theorem vt7 : ∀ f, VOk (tabF T7 f) (tabV TV7 f) := tabV_cons v58 vt6
/-! (*seepage/core.work).pushed -/
noncomputable def V34 : VF := S34.va (tabV TV7) false
theorem v34 : VOk F34 V34 := Smry.va_ok vt7
noncomputable def TV8 : List (Nat × VF) := (34, V34) :: TV7
theorem vt8 : ∀ f, VOk (tabF T8 f) (tabV TV8 f) := tabV_cons v34 vt7
/-! (*seepage/core.work).broken -/
noncomputable def V35 : VF := S35.va (tabV TV8) true
theorem v35 : VOk F35 V35 := Smry.va_ok vt8
noncomputable def TV9 : List (Nat × VF) := (35, V35) :: TV8
theorem vt9 : ∀ f, VOk (tabF T9 f) (tabV TV9 f) := tabV_cons v35 vt8
/-! (*seepage/core.work).first -/
noncomputable def V59 : VF := S59.va (tabV TV9) true
theorem v59 : VOk F59 V59 := Smry.va_ok vt9
noncomputable def TV10 : List (Nat × VF) := (59, V59) :: TV9
theorem vt10 : ∀ f, VOk (tabF T10 f) (tabV TV10 f) := tabV_cons v59 vt9
/-! seepage/label.And -/
noncomputable def V95 : VF := S95.va (tabV TV10) false
theorem v95 : VOk F95 V95 := Smry.va_ok vt10
noncomputable def TV11 : List (Nat × VF) := (95, V95) :: TV10
theorem vt11 : ∀ f, VOk (tabF T11 f) (tabV TV11 f) := tabV_cons v95 vt10
/-! (*seepage/core.work).stored -/
noncomputable def V60 : VF := (S60.va (tabV TV11) true).split 13
theorem v60 : VOk F60 V60 := VOk.split (Smry.va_ok vt11) 13
noncomputable def TV12 : List (Nat × VF) := (60, V60) :: TV11
theorem vt12 : ∀ f, VOk (tabF T12 f) (tabV TV12 f) := tabV_cons v60 vt11
/-! seepage/label.Bit -/
noncomputable def V107 : VF := S107.va (tabV TV12) false
theorem v107 : VOk F107 V107 := Smry.va_ok vt12
noncomputable def TV13 : List (Nat × VF) := (107, V107) :: TV12
theorem vt13 : ∀ f, VOk (tabF T13 f) (tabV TV13 f) := tabV_cons v107 vt12
/-! seepage/alu.Set -/
noncomputable def V105 : VF := S105.va (tabV TV13) false
theorem v105 : VOk F105 V105 := Smry.va_ok vt13
noncomputable def TV14 : List (Nat × VF) := (105, V105) :: TV13
theorem vt14 : ∀ f, VOk (tabF T14 f) (tabV TV14 f) := tabV_cons v105 vt13
/-! seepage/alu.NZ -/
noncomputable def V103 : VF := S103.va (tabV TV14) false
theorem v103 : VOk F103 V103 := Smry.va_ok vt14
noncomputable def TV15 : List (Nat × VF) := (103, V103) :: TV14
theorem vt15 : ∀ f, VOk (tabF T15 f) (tabV TV15 f) := tabV_cons v103 vt14
/-! seepage/alu.shifted -/
noncomputable def V106 : VF := S106.va (tabV TV15) false
theorem v106 : VOk F106 V106 := Smry.va_ok vt15
noncomputable def TV16 : List (Nat × VF) := (106, V106) :: TV15
theorem vt16 : ∀ f, VOk (tabF T16 f) (tabV TV16 f) := tabV_cons v106 vt15
/-! seepage/alu.Asl -/
noncomputable def V67 : VF := S67.va (tabV TV16) false
theorem v67 : VOk F67 V67 := Smry.va_ok vt16
noncomputable def TV17 : List (Nat × VF) := (67, V67) :: TV16
theorem vt17 : ∀ f, VOk (tabF T17 f) (tabV TV17 f) := tabV_cons v67 vt16
/-! seepage/alu.Lsr -/
noncomputable def V68 : VF := S68.va (tabV TV17) false
theorem v68 : VOk F68 V68 := Smry.va_ok vt17
noncomputable def TV18 : List (Nat × VF) := (68, V68) :: TV17
theorem vt18 : ∀ f, VOk (tabF T18 f) (tabV TV18 f) := tabV_cons v68 vt17
/-! seepage/alu.Get -/
noncomputable def V108 : VF := S108.va (tabV TV18) false
theorem v108 : VOk F108 V108 := Smry.va_ok vt18
noncomputable def TV19 : List (Nat × VF) := (108, V108) :: TV18
theorem vt19 : ∀ f, VOk (tabF T19 f) (tabV TV19 f) := tabV_cons v108 vt18
/-! seepage/alu.Rol -/
noncomputable def V69 : VF := S69.va (tabV TV19) false
theorem v69 : VOk F69 V69 := Smry.va_ok vt19
noncomputable def TV20 : List (Nat × VF) := (69, V69) :: TV19
theorem vt20 : ∀ f, VOk (tabF T20 f) (tabV TV20 f) := tabV_cons v69 vt19
/-! seepage/alu.Ror -/
noncomputable def V70 : VF := S70.va (tabV TV20) false
theorem v70 : VOk F70 V70 := Smry.va_ok vt20
noncomputable def TV21 : List (Nat × VF) := (70, V70) :: TV20
theorem vt21 : ∀ f, VOk (tabF T21 f) (tabV TV21 f) := tabV_cons v70 vt20
/-! seepage/label.Or -/
noncomputable def V109 : VF := S109.va (tabV TV21) false
theorem v109 : VOk F109 V109 := Smry.va_ok vt21
noncomputable def TV22 : List (Nat × VF) := (109, V109) :: TV21
theorem vt22 : ∀ f, VOk (tabF T22 f) (tabV TV22 f) := tabV_cons v109 vt21
/-! (*seepage/core.work).ora -/
noncomputable def V71 : VF := S71.va (tabV TV22) false
theorem v71 : VOk F71 V71 := Smry.va_ok vt22
noncomputable def TV23 : List (Nat × VF) := (71, V71) :: TV22
theorem vt23 : ∀ f, VOk (tabF T23 f) (tabV TV23 f) := tabV_cons v71 vt22
/-! (*seepage/core.work).and -/
noncomputable def V72 : VF := S72.va (tabV TV23) false
theorem v72 : VOk F72 V72 := Smry.va_ok vt23
noncomputable def TV24 : List (Nat × VF) := (72, V72) :: TV23
theorem vt24 : ∀ f, VOk (tabF T24 f) (tabV TV24 f) := tabV_cons v72 vt23
/-! seepage/label.Xor -/
noncomputable def V110 : VF := S110.va (tabV TV24) false
theorem v110 : VOk F110 V110 := Smry.va_ok vt24
noncomputable def TV25 : List (Nat × VF) := (110, V110) :: TV24
theorem vt25 : ∀ f, VOk (tabF T25 f) (tabV TV25 f) := tabV_cons v110 vt24
/-! (*seepage/core.work).eor -/
noncomputable def V73 : VF := S73.va (tabV TV25) false
theorem v73 : VOk F73 V73 := Smry.va_ok vt25
noncomputable def TV26 : List (Nat × VF) := (73, V73) :: TV25
theorem vt26 : ∀ f, VOk (tabF T26 f) (tabV TV26 f) := tabV_cons v73 vt25
/-! seepage/alu.Adc -/
noncomputable def V111 : VF := S111.va (tabV TV26) false
theorem v111 : VOk F111 V111 := Smry.va_ok vt26
noncomputable def TV27 : List (Nat × VF) := (111, V111) :: TV26
theorem vt27 : ∀ f, VOk (tabF T27 f) (tabV TV27 f) := tabV_cons v111 vt26
/-! (*seepage/core.work).adc -/
noncomputable def V74 : VF := S74.va (tabV TV27) false
theorem v74 : VOk F74 V74 := Smry.va_ok vt27
noncomputable def TV28 : List (Nat × VF) := (74, V74) :: TV27
theorem vt28 : ∀ f, VOk (tabF T28 f) (tabV TV28 f) := tabV_cons v74 vt27
/-! seepage/alu.Sbx -/
noncomputable def V116 : VF := S116.va (tabV TV28) false
theorem v116 : VOk F116 V116 := Smry.va_ok vt28
noncomputable def TV29 : List (Nat × VF) := (116, V116) :: TV28
theorem vt29 : ∀ f, VOk (tabF T29 f) (tabV TV29 f) := tabV_cons v116 vt28
/-! seepage/alu.Cmp -/
noncomputable def V112 : VF := S112.va (tabV TV29) false
theorem v112 : VOk F112 V112 := Smry.va_ok vt29
noncomputable def TV30 : List (Nat × VF) := (112, V112) :: TV29
theorem vt30 : ∀ f, VOk (tabF T30 f) (tabV TV30 f) := tabV_cons v112 vt29
/-! (*seepage/core.work).cmp -/
noncomputable def V75 : VF := S75.va (tabV TV30) false
theorem v75 : VOk F75 V75 := Smry.va_ok vt30
noncomputable def TV31 : List (Nat × VF) := (75, V75) :: TV30
theorem vt31 : ∀ f, VOk (tabF T31 f) (tabV TV31 f) := tabV_cons v75 vt30
/-! seepage/alu.Sbc -/
noncomputable def V113 : VF := S113.va (tabV TV31) false
theorem v113 : VOk F113 V113 := Smry.va_ok vt31
noncomputable def TV32 : List (Nat × VF) := (113, V113) :: TV31
theorem vt32 : ∀ f, VOk (tabF T32 f) (tabV TV32 f) := tabV_cons v113 vt31
/-! (*seepage/core.work).sbc -/
noncomputable def V76 : VF := S76.va (tabV TV32) false
theorem v76 : VOk F76 V76 := Smry.va_ok vt32
noncomputable def TV33 : List (Nat × VF) := (76, V76) :: TV32
theorem vt33 : ∀ f, VOk (tabF T33 f) (tabV TV33 f) := tabV_cons v76 vt32
/-! (*seepage/core.work).turned -/
noncomputable def V50 : VF := (S50.va (tabV TV33) true).split 13
theorem v50 : VOk F50 V50 := VOk.split (Smry.va_ok vt33) 13
noncomputable def TV34 : List (Nat × VF) := (50, V50) :: TV33
theorem vt34 : ∀ f, VOk (tabF T34 f) (tabV TV34 f) := tabV_cons v50 vt33
/-! (*seepage/core.work).worked -/
noncomputable def V36 : VF := S36.va (tabV TV34) true
theorem v36 : VOk F36 V36 := Smry.va_ok vt34
noncomputable def TV35 : List (Nat × VF) := (36, V36) :: TV34
theorem vt35 : ∀ f, VOk (tabF T35 f) (tabV TV35 f) := tabV_cons v36 vt34
/-! seepage/core.Ask -/
noncomputable def V14 : VF := S14.va (tabV TV35) true
theorem v14 : VOk F14 V14 := Smry.va_ok vt35
noncomputable def TV36 : List (Nat × VF) := (14, V14) :: TV35
theorem vt36 : ∀ f, VOk (tabF T36 f) (tabV TV36 f) := tabV_cons v14 vt35
/-! (*seepage/core.work).fetch -/
noncomputable def V26 : VF := S26.va (tabV TV36) false
theorem v26 : VOk F26 V26 := Smry.va_ok vt36
noncomputable def TV37 : List (Nat × VF) := (26, V26) :: TV36
theorem vt37 : ∀ f, VOk (tabF T37 f) (tabV TV37 f) := tabV_cons v26 vt36
/-! (*seepage/core.work).flag -/
noncomputable def V66 : VF := S66.va (tabV TV37) false
theorem v66 : VOk F66 V66 := Smry.va_ok vt37
noncomputable def TV38 : List (Nat × VF) := (66, V66) :: TV37
theorem vt38 : ∀ f, VOk (tabF T38 f) (tabV TV38 f) := tabV_cons v66 vt37
/-! (*seepage/core.work).without -/
noncomputable def V49 : VF := S49.va (tabV TV38) false
theorem v49 : VOk F49 V49 := Smry.va_ok vt38
noncomputable def TV39 : List (Nat × VF) := (49, V49) :: TV38
theorem vt39 : ∀ f, VOk (tabF T39 f) (tabV TV39 f) := tabV_cons v49 vt38
/-! (*seepage/core.work).cpx -/
noncomputable def V77 : VF := S77.va (tabV TV39) false
theorem v77 : VOk F77 V77 := Smry.va_ok vt39
noncomputable def TV40 : List (Nat × VF) := (77, V77) :: TV39
theorem vt40 : ∀ f, VOk (tabF T40 f) (tabV TV40 f) := tabV_cons v77 vt39
/-! (*seepage/core.work).cpy -/
noncomputable def V78 : VF := S78.va (tabV TV40) false
theorem v78 : VOk F78 V78 := Smry.va_ok vt40
noncomputable def TV41 : List (Nat × VF) := (78, V78) :: TV40
theorem vt41 : ∀ f, VOk (tabF T41 f) (tabV TV41 f) := tabV_cons v78 vt40
/-! seepage/alu.Bit -/
noncomputable def V114 : VF := S114.va (tabV TV41) false
theorem v114 : VOk F114 V114 := Smry.va_ok vt41
noncomputable def TV42 : List (Nat × VF) := (114, V114) :: TV41
theorem vt42 : ∀ f, VOk (tabF T42 f) (tabV TV42 f) := tabV_cons v114 vt41
/-! (*seepage/core.work).bit -/
noncomputable def V79 : VF := S79.va (tabV TV42) false
theorem v79 : VOk F79 V79 := Smry.va_ok vt42
noncomputable def TV43 : List (Nat × VF) := (79, V79) :: TV42
theorem vt43 : ∀ f, VOk (tabF T43 f) (tabV TV43 f) := tabV_cons v79 vt42
/-! (*seepage/core.work).lda -/
noncomputable def V80 : VF := S80.va (tabV TV43) false
theorem v80 : VOk F80 V80 := Smry.va_ok vt43
noncomputable def TV44 : List (Nat × VF) := (80, V80) :: TV43
theorem vt44 : ∀ f, VOk (tabF T44 f) (tabV TV44 f) := tabV_cons v80 vt43
/-! (*seepage/core.work).ldx -/
noncomputable def V81 : VF := S81.va (tabV TV44) false
theorem v81 : VOk F81 V81 := Smry.va_ok vt44
noncomputable def TV45 : List (Nat × VF) := (81, V81) :: TV44
theorem vt45 : ∀ f, VOk (tabF T45 f) (tabV TV45 f) := tabV_cons v81 vt44
/-! (*seepage/core.work).ldy -/
noncomputable def V82 : VF := S82.va (tabV TV45) false
theorem v82 : VOk F82 V82 := Smry.va_ok vt45
noncomputable def TV46 : List (Nat × VF) := (82, V82) :: TV45
theorem vt46 : ∀ f, VOk (tabF T46 f) (tabV TV46 f) := tabV_cons v82 vt45
/-! (*seepage/core.work).lax -/
noncomputable def V83 : VF := S83.va (tabV TV46) false
theorem v83 : VOk F83 V83 := Smry.va_ok vt46
noncomputable def TV47 : List (Nat × VF) := (83, V83) :: TV46
theorem vt47 : ∀ f, VOk (tabF T47 f) (tabV TV47 f) := tabV_cons v83 vt46
/-! (*seepage/core.work).las -/
noncomputable def V84 : VF := S84.va (tabV TV47) false
theorem v84 : VOk F84 V84 := Smry.va_ok vt47
noncomputable def TV48 : List (Nat × VF) := (84, V84) :: TV47
theorem vt48 : ∀ f, VOk (tabF T48 f) (tabV TV48 f) := tabV_cons v84 vt47
/-! (*seepage/core.work).anc -/
noncomputable def V85 : VF := S85.va (tabV TV48) false
theorem v85 : VOk F85 V85 := Smry.va_ok vt48
noncomputable def TV49 : List (Nat × VF) := (85, V85) :: TV48
theorem vt49 : ∀ f, VOk (tabF T49 f) (tabV TV49 f) := tabV_cons v85 vt48
/-! (*seepage/core.work).alr -/
noncomputable def V86 : VF := S86.va (tabV TV49) false
theorem v86 : VOk F86 V86 := Smry.va_ok vt49
noncomputable def TV50 : List (Nat × VF) := (86, V86) :: TV49
theorem vt50 : ∀ f, VOk (tabF T50 f) (tabV TV50 f) := tabV_cons v86 vt49
/-! seepage/alu.Arr -/
noncomputable def V115 : VF := S115.va (tabV TV50) false
theorem v115 : VOk F115 V115 := Smry.va_ok vt50
noncomputable def TV51 : List (Nat × VF) := (115, V115) :: TV50
theorem vt51 : ∀ f, VOk (tabF T51 f) (tabV TV51 f) := tabV_cons v115 vt50
/-! (*seepage/core.work).arr -/
noncomputable def V87 : VF := S87.va (tabV TV51) false
theorem v87 : VOk F87 V87 := Smry.va_ok vt51
noncomputable def TV52 : List (Nat × VF) := (87, V87) :: TV51
theorem vt52 : ∀ f, VOk (tabF T52 f) (tabV TV52 f) := tabV_cons v87 vt51
/-! (*seepage/core.work).sbx -/
noncomputable def V88 : VF := S88.va (tabV TV52) false
theorem v88 : VOk F88 V88 := Smry.va_ok vt52
noncomputable def TV53 : List (Nat × VF) := (88, V88) :: TV52
theorem vt53 : ∀ f, VOk (tabF T53 f) (tabV TV53 f) := tabV_cons v88 vt52
/-! (*seepage/core.work).ane -/
noncomputable def V89 : VF := S89.va (tabV TV53) false
theorem v89 : VOk F89 V89 := Smry.va_ok vt53
noncomputable def TV54 : List (Nat × VF) := (89, V89) :: TV53
theorem vt54 : ∀ f, VOk (tabF T54 f) (tabV TV54 f) := tabV_cons v89 vt53
/-! (*seepage/core.work).lxa -/
noncomputable def V90 : VF := S90.va (tabV TV54) false
theorem v90 : VOk F90 V90 := Smry.va_ok vt54
noncomputable def TV55 : List (Nat × VF) := (90, V90) :: TV54
theorem vt55 : ∀ f, VOk (tabF T55 f) (tabV TV55 f) := tabV_cons v90 vt54
/-! (*seepage/core.work).with -/
noncomputable def V51 : VF := (S51.va (tabV TV55) true).split 13
theorem v51 : VOk F51 V51 := VOk.split (Smry.va_ok vt55) 13
noncomputable def TV56 : List (Nat × VF) := (51, V51) :: TV55
theorem vt56 : ∀ f, VOk (tabF T56 f) (tabV TV56 f) := tabV_cons v51 vt55
/-! (*seepage/core.work).taken -/
noncomputable def V91 : VF := S91.va (tabV TV56) true
theorem v91 : VOk F91 V91 := Smry.va_ok vt56
noncomputable def TV57 : List (Nat × VF) := (91, V91) :: TV56
theorem vt57 : ∀ f, VOk (tabF T57 f) (tabV TV57 f) := tabV_cons v91 vt56
/-! (*seepage/core.work).branch -/
noncomputable def V52 : VF := S52.va (tabV TV57) true
theorem v52 : VOk F52 V52 := Smry.va_ok vt57
noncomputable def TV58 : List (Nat × VF) := (52, V52) :: TV57
theorem vt58 : ∀ f, VOk (tabF T58 f) (tabV TV58 f) := tabV_cons v52 vt57
/-! seepage/alu.Pull -/
noncomputable def V93 : VF := S93.va (tabV TV58) false
theorem v93 : VOk F93 V93 := Smry.va_ok vt58
noncomputable def TV59 : List (Nat × VF) := (93, V93) :: TV58
theorem vt59 : ∀ f, VOk (tabF T59 f) (tabV TV59 f) := tabV_cons v93 vt58
/-! (*seepage/core.work).pulls -/
noncomputable def V53 : VF := S53.va (tabV TV59) false
theorem v53 : VOk F53 V53 := Smry.va_ok vt59
noncomputable def TV60 : List (Nat × VF) := (53, V53) :: TV59
theorem vt60 : ∀ f, VOk (tabF T60 f) (tabV TV60 f) := tabV_cons v53 vt59
/-! (*seepage/core.work).memory -/
noncomputable def V54 : VF := S54.va (tabV TV60) false
theorem v54 : VOk F54 V54 := Smry.va_ok vt60
noncomputable def TV61 : List (Nat × VF) := (54, V54) :: TV60
theorem vt61 : ∀ f, VOk (tabF T61 f) (tabV TV61 f) := tabV_cons v54 vt60
/-! seepage/label.Word -/
noncomputable def V121 : VF := S121.va (tabV TV61) false
theorem v121 : VOk F121 V121 := Smry.va_ok vt61
noncomputable def TV62 : List (Nat × VF) := (121, V121) :: TV61
theorem vt62 : ∀ f, VOk (tabF T62 f) (tabV TV62 f) := tabV_cons v121 vt61
/-! (*seepage/core.work).aim -/
noncomputable def V117 : VF := S117.va (tabV TV62) false
theorem v117 : VOk F117 V117 := Smry.va_ok vt62
noncomputable def TV63 : List (Nat × VF) := (117, V117) :: TV62
theorem vt63 : ∀ f, VOk (tabF T63 f) (tabV TV63 f) := tabV_cons v117 vt62
/-! (*seepage/core.work).wide -/
noncomputable def V118 : VF := S118.va (tabV TV63) false
theorem v118 : VOk F118 V118 := Smry.va_ok vt63
noncomputable def TV64 : List (Nat × VF) := (118, V118) :: TV63
theorem vt64 : ∀ f, VOk (tabF T64 f) (tabV TV64 f) := tabV_cons v118 vt63
/-! (*seepage/core.work).page -/
noncomputable def V119 : VF := S119.va (tabV TV64) false
theorem v119 : VOk F119 V119 := Smry.va_ok vt64
noncomputable def TV65 : List (Nat × VF) := (119, V119) :: TV64
theorem vt65 : ∀ f, VOk (tabF T65 f) (tabV TV65 f) := tabV_cons v119 vt64
/-! (*seepage/core.work).address -/
noncomputable def V94 : VF := S94.va (tabV TV65) false
theorem v94 : VOk F94 V94 := Smry.va_ok vt65
noncomputable def TV66 : List (Nat × VF) := (94, V94) :: TV65
theorem vt66 : ∀ f, VOk (tabF T66 f) (tabV TV66 f) := tabV_cons v94 vt65
/-! (*seepage/core.work).works -/
noncomputable def V55 : VF := S55.va (tabV TV66) true
theorem v55 : VOk F55 V55 := Smry.va_ok vt66
noncomputable def TV67 : List (Nat × VF) := (55, V55) :: TV66
theorem vt67 : ∀ f, VOk (tabF T67 f) (tabV TV67 f) := tabV_cons v55 vt66
/-! (*seepage/core.work).far -/
noncomputable def V96 : VF := S96.va (tabV TV67) false
theorem v96 : VOk F96 V96 := Smry.va_ok vt67
noncomputable def TV68 : List (Nat × VF) := (96, V96) :: TV67
theorem vt68 : ∀ f, VOk (tabF T68 f) (tabV TV68 f) := tabV_cons v96 vt67
/-! (*seepage/core.work).jump -/
noncomputable def V97 : VF := S97.va (tabV TV68) false
theorem v97 : VOk F97 V97 := Smry.va_ok vt68
noncomputable def TV69 : List (Nat × VF) := (97, V97) :: TV68
theorem vt69 : ∀ f, VOk (tabF T69 f) (tabV TV69 f) := tabV_cons v97 vt68
/-! (*seepage/core.work).call -/
noncomputable def V98 : VF := S98.va (tabV TV69) false
theorem v98 : VOk F98 V98 := Smry.va_ok vt69
noncomputable def TV70 : List (Nat × VF) := (98, V98) :: TV69
theorem vt70 : ∀ f, VOk (tabF T70 f) (tabV TV70 f) := tabV_cons v98 vt69
/-! (*seepage/core.work).back -/
noncomputable def V99 : VF := S99.va (tabV TV70) false
theorem v99 : VOk F99 V99 := Smry.va_ok vt70
noncomputable def TV71 : List (Nat × VF) := (99, V99) :: TV70
theorem vt71 : ∀ f, VOk (tabF T71 f) (tabV TV71 f) := tabV_cons v99 vt70
/-! (*seepage/core.work).interrupt -/
noncomputable def V100 : VF := S100.va (tabV TV71) false
theorem v100 : VOk F100 V100 := Smry.va_ok vt71
noncomputable def TV72 : List (Nat × VF) := (100, V100) :: TV71
theorem vt72 : ∀ f, VOk (tabF T72 f) (tabV TV72 f) := tabV_cons v100 vt71
/-! (*seepage/core.work).control -/
noncomputable def V56 : VF := S56.va (tabV TV72) false
theorem v56 : VOk F56 V56 := Smry.va_ok vt72
noncomputable def TV73 : List (Nat × VF) := (56, V56) :: TV72
theorem vt73 : ∀ f, VOk (tabF T73 f) (tabV TV73 f) := tabV_cons v56 vt72
/-! (*seepage/core.work).goes -/
noncomputable def V27 : VF := S27.va (tabV TV73) true
theorem v27 : VOk F27 V27 := Smry.va_ok vt73
noncomputable def TV74 : List (Nat × VF) := (27, V27) :: TV73
theorem vt74 : ∀ f, VOk (tabF T74 f) (tabV TV74 f) := tabV_cons v27 vt73
/-! (*seepage/core.work).lines -/
noncomputable def V28 : VF := S28.va (tabV TV74) false
theorem v28 : VOk F28 V28 := Smry.va_ok vt74
noncomputable def TV75 : List (Nat × VF) := (28, V28) :: TV74
theorem vt75 : ∀ f, VOk (tabF T75 f) (tabV TV75 f) := tabV_cons v28 vt74
/-! seepage/core.Take -/
noncomputable def V13 : VF := S13.va (tabV TV75) true
theorem v13 : VOk F13 V13 := Smry.va_ok vt75
noncomputable def TV76 : List (Nat × VF) := (13, V13) :: TV75
theorem vt76 : ∀ f, VOk (tabF T76 f) (tabV TV76 f) := tabV_cons v13 vt75
/-! seepage/seepagelaw10.awake -/
noncomputable def V9 : VF := S9.va (lpV (l9.map (·.2)) 12 (tabV TV76)) true
theorem v9 : VOk F9 V9 := Smry.va_ok (lpV_ok vt76)
noncomputable def TV77 : List (Nat × VF) := (9, V9) :: TV76
theorem vt77 : ∀ f, VOk (tabF T77 f) (tabV TV77 f) := tabV_cons v9 vt76
/-! seepage/core.Wait -/
noncomputable def V16 : VF := S16.va (tabV TV77) false
theorem v16 : VOk F16 V16 := Smry.va_ok vt77
noncomputable def TV78 : List (Nat × VF) := (16, V16) :: TV77
theorem vt78 : ∀ f, VOk (tabF T78 f) (tabV TV78 f) := tabV_cons v16 vt77
end Go.Proofs.YtalnndmnnffnmaaGreat.Cr
