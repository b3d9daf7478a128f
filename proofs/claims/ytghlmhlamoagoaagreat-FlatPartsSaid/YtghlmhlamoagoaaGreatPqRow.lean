/-
  'seepagelaw11.FlatParts': for every input the law returns true, and each argument reads as it did. WRITTEN BY PROGRAM (wip/gen2/flrow.py). No condition.
-/
import Derived.Test.YtghlmhlamoagoaaGreatRows
import Derived.HandedShaped
import Derived.Shelf.Vars
import Derived.Test.YtghlmhlamoagoaaGreatPq11
set_option linter.unusedVariables false
set_option linter.unusedSimpArgs false
namespace Go.Proofs.YtghlmhlamoagoaaGreat.Fl
open Go Go.ChangeShapes Go.WideShapes Go.ChangeAt Go.RowKit Go.Proofs Go.Proofs.YtghlmhlamoagoaaGreat.Sx

theorem own : ownKnob Tryz.prog.godebug = none := by kernel_rfl
theorem laidOut : laidOutB Tryz.prog = true := by kernel_rfl
theorem params3 : Tryz.f3.params = #[28, 29, 33] := by kernel_rfl
theorem res3 : Tryz.f3.resultTypes = #[4] := by kernel_rfl
theorem bool3 : Tryz.prog.underlying 4 = some .bool := by kernel_rfl
theorem shs3 : shsOf Tryz.prog [28, 29, 33] = some s3.args := by kernel_rfl
theorem plain3 : ∀ t, t ∈ Tryz.f3.params.toList -> Tryz.prog.readableRec t = true /\ t < Tryz.prog.types.size := by
 intro t ht
 rw [params3] at ht
 simp only [List.mem_cons, List.not_mem_nil, or_false] at ht
 rcases ht with rfl | rfl | rfl
 ·exact ⟨by kernel_rfl, of_decide_eq_true (by kernel_rfl)⟩
 ·exact ⟨by kernel_rfl, of_decide_eq_true (by kernel_rfl)⟩
 ·exact ⟨by kernel_rfl, of_decide_eq_true (by kernel_rfl)⟩
noncomputable def glT : TypeId := ((Tryz.prog.globals[0]?).map (·.type)).getD 0
theorem laid_of {W : World} (h : W.ShapedOpen Tryz.prog) : ∃ m, Laid (gl m) W := by
 obtain ⟨m, hm⟩ := cell_of_shapedOpen_int (P := Tryz.prog) (w := W) (g := 0) (t := glT) (zero := #[.int .i64 0]) (k := .i64) h (of_decide_eq_true (by kernel_rfl)) (by kernel_rfl) rfl (by kernel_rfl) (by kernel_rfl) (by kernel_rfl)
 have hlt : 0 < W.heap.size := World.block_lt_of_cell? W _ hm
 refine ⟨m, fun g' vs hg' => ?_⟩
 match g', hg' with
 | 0, hg' =>
  simp only [gl, List.getElem?_cons_zero, zOi] at hg'
  subst hg'
  refine ⟨hlt, fun j v hj => ?_⟩
  match j, hj with
  | 0, hj =>
   simp only [List.getElem?_cons_zero, zOi] at hj
   subst hj
   exact ⟨hm, rfl⟩
  | j + 1, hj => simp at hj
 | n + 1, hg' => simp [gl] at hg'
theorem law3 {vs : List Value} {w : World} {is : List Int} {bs : List Bool} {ps : List Rg} (hfl : flatArgs s3.args vs w = some (is, bs, ps)) : F3 is bs = ([], [true, true]) := by
 obtain ⟨h1, h2, _, _⟩ := flatArgs_len hfl
 have hr := flatArgs_rng hfl
 obtain ⟨i0, t0, rfl, g0⟩ := len_cons (n := 17) h1
 obtain ⟨i1, t1, rfl, g1⟩ := len_cons (n := 16) g0
 obtain ⟨i2, t2, rfl, g2⟩ := len_cons (n := 15) g1
 obtain ⟨i3, t3, rfl, g3⟩ := len_cons (n := 14) g2
 obtain ⟨i4, t4, rfl, g4⟩ := len_cons (n := 13) g3
 obtain ⟨i5, t5, rfl, g5⟩ := len_cons (n := 12) g4
 obtain ⟨i6, t6, rfl, g6⟩ := len_cons (n := 11) g5
 obtain ⟨i7, t7, rfl, g7⟩ := len_cons (n := 10) g6
 obtain ⟨i8, t8, rfl, g8⟩ := len_cons (n := 9) g7
 obtain ⟨i9, t9, rfl, g9⟩ := len_cons (n := 8) g8
 obtain ⟨i10, t10, rfl, g10⟩ := len_cons (n := 7) g9
 obtain ⟨i11, t11, rfl, g11⟩ := len_cons (n := 6) g10
 obtain ⟨i12, t12, rfl, g12⟩ := len_cons (n := 5) g11
 obtain ⟨i13, t13, rfl, g13⟩ := len_cons (n := 4) g12
 obtain ⟨i14, t14, rfl, g14⟩ := len_cons (n := 3) g13
 obtain ⟨i15, t15, rfl, g15⟩ := len_cons (n := 2) g14
 obtain ⟨i16, t16, rfl, g16⟩ := len_cons (n := 1) g15
 obtain ⟨i17, t17, rfl, g17⟩ := len_cons (n := 0) g16
 obtain rfl := len_nil g17
 obtain ⟨b0, u0, rfl, k0⟩ := len_cons (n := 14) h2
 obtain ⟨b1, u1, rfl, k1⟩ := len_cons (n := 13) k0
 obtain ⟨b2, u2, rfl, k2⟩ := len_cons (n := 12) k1
 obtain ⟨b3, u3, rfl, k3⟩ := len_cons (n := 11) k2
 obtain ⟨b4, u4, rfl, k4⟩ := len_cons (n := 10) k3
 obtain ⟨b5, u5, rfl, k5⟩ := len_cons (n := 9) k4
 obtain ⟨b6, u6, rfl, k6⟩ := len_cons (n := 8) k5
 obtain ⟨b7, u7, rfl, k7⟩ := len_cons (n := 7) k6
 obtain ⟨b8, u8, rfl, k8⟩ := len_cons (n := 6) k7
 obtain ⟨b9, u9, rfl, k9⟩ := len_cons (n := 5) k8
 obtain ⟨b10, u10, rfl, k10⟩ := len_cons (n := 4) k9
 obtain ⟨b11, u11, rfl, k11⟩ := len_cons (n := 3) k10
 obtain ⟨b12, u12, rfl, k12⟩ := len_cons (n := 2) k11
 obtain ⟨b13, u13, rfl, k13⟩ := len_cons (n := 1) k12
 obtain ⟨b14, u14, rfl, k14⟩ := len_cons (n := 0) k13
 obtain rfl := len_nil k14
 simp only [s3, rngA, rngK, IntKind.min, IntKind.max, IntKind.signed, IntKind.bits, Bool.false_eq_true, if_false, if_true] at hr
 obtain ⟨r0, r1, r2, r3, r4, r5, r6, r7, r8, r9, r10, r11, r12, hq, _⟩ := hr
 obtain ⟨hn, hB⟩ := bts_of hq
 exact parts3 _ _ _ _ _ _ _ _ _ _ _ _ _ _ _ _ _ _ _ _ _ _ _ _ _ _ _ _ _ _ _ _ _ ⟨⟨by omega, by omega⟩, ⟨by omega, by omega⟩, ⟨by omega, by omega⟩, ⟨by omega, by omega⟩, ⟨by omega, by omega⟩, ⟨by omega, by omega⟩, ⟨by omega, by omega⟩, ⟨by omega, by omega⟩, ⟨by omega, by omega⟩, ⟨by omega, by omega⟩⟩ hn hB

set_option maxRecDepth 100000 in
theorem lifted3 (os : Os) (started : os.Started) (H : Type) (enc : TypeId × Value -> H) :
  ReturnsInHanded {} Tryz.checked os 3 .any (Rows.flatPartsSpec.pre6 enc Tryz.prog Tryz.f3 Rows.flatPartsRow.domain false) (Rows.flatPartsSpec.post enc Tryz.prog Tryz.f3 false true false false) := by
 refine returnsInHanded_of_change_shaped (C := Tryz.checked) own started (by kernel_rfl) Tryz.func3
  (ChangeSpec.witness6 (enc := enc) (C := Tryz.checked) false ⟨#[], #[.agg #[.int .u8 0, .bool false, .int .u8 0, .bool false, .int .u8 0, .bool false, .int .u8 0, .bool false, .int .u8 0, .int .u8 0, .int .u16 0, .bool false, .int .u8 0, .int .i64 0, .int .u16 0, .bool false, .int .u8 0, .bool false, .bool false, .int .i64 0, .bool false, .bool false, .int .i64 0, .bool false, .bool false], .slice none 0 0, .agg #[.int .i64 0, .int .i64 0, .int .u8 0, .bool false, .bool false, .bool false]], []⟩ 8 (by kernel_rfl) (by kernel_rfl) (by kernel_rfl) (by kernel_rfl)) ?_
 intro W base args ds gs before hval0 hW _ _ hsh _
 have hval : ∀ (j : Nat) t v, Tryz.f3.params[j]? = some t -> args[j]? = some v -> Value.okWide Tryz.prog W .any base t v := hval0
 have hW' := hW
 obtain ⟨p, q, hA0, hV, rfl, hfz, hnd⟩ := hW
 have hA : DataW.TrodAll enc Tryz.prog W 0 (fun _ => true) true Tryz.f3.params.toList args.toList ds p := hA0
 have hA3 := hA
 rw [params3] at hA3 hval
 obtain ⟨rfl, rfl⟩ := trodVars_none hV
 obtain ⟨is, bs, hfl, _⟩ := flat_of_trod shs3 (fun j t v hj hv => hval j t v (by simpa using hj) (by simpa using hv)) hA3
 have hds : ∃ d1 d2 d3, ds = [d1, d2, d3] := by
  have := (trodAll_len hA3).2
  obtain ⟨d1, t1, rfl, g1⟩ := len_cons (n := 2) this
  obtain ⟨d2, t2, rfl, g2⟩ := len_cons (n := 1) g1
  obtain ⟨d3, t3, rfl, g3⟩ := len_cons (n := 0) g2
  obtain rfl := len_nil g3
  exact ⟨d1, d2, d3, rfl⟩
 have hlaw := law3 hfl
 obtain ⟨m, hL⟩ := laid_of hsh
 have hc := c3 (m := m) args.toList W _ _ [] hL hfl trivial (fun r hr => by cases hr) (fun r hr => by cases hr) (fun q hq => by cases hq) (fun _ => by rw [hlaw]; rfl)
 rw [show args.toList.toArray = args by simp] at hc
 refine Calls.mono hc fun e W' he => ?_
 obtain ⟨v, rfl, hk, ho, _⟩ := he
 rw [hlaw] at ho
 obtain rfl := out_trueP rfl rfl rfl rfl ho
 obtain ⟨d1, d2, d3, rfl⟩ := hds
 exact ⟨_, rfl, law_post laidOut plain3 res3 bool3 rfl hW' hA (by simp) rfl rfl hk⟩

theorem flatParts_holds : Rows.FlatPartsSaid :=
 OpenClaim.holds_of_wide 3 Tryz.f3 rfl rfl rfl rfl rfl rfl rfl ⟨rfl, rfl, rfl, rfl, rfl⟩ rfl rfl rfl rfl rfl (by kernel_rfl) Tryz.func3 (by kernel_rfl)
  (of_decide_eq_true (by kernel_rfl)) (by unfold Func.isWrapper; first | (rw [if_pos (by decide +kernel)]; kernel_rfl) | (rw [if_neg (by decide +kernel)]; exact ⟨rfl, rfl⟩))
  (fun os started H enc _ => lifted3 os started H enc)
end Go.Proofs.YtghlmhlamoagoaaGreat.Fl
