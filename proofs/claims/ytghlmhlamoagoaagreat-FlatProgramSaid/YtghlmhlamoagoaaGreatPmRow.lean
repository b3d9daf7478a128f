/-
  'seepagelaw11.FlatProgram': for every input the law returns true, and each argument reads as it did. WRITTEN BY PROGRAM (wip/gen2/flrow.py). No condition.
-/
import Derived.Test.YtghlmhlamoagoaaGreatRows
import Derived.HandedShaped
import Derived.Shelf.Vars
import Derived.Test.YtghlmhlamoagoaaGreatPm11
import Derived.Test.YtghlmhlamoagoaaGreatPm12
set_option linter.unusedVariables false
set_option linter.unusedSimpArgs false
namespace Go.Proofs.YtghlmhlamoagoaaGreat.Fl
open Go Go.ChangeShapes Go.WideShapes Go.ChangeAt Go.RowKit Go.Proofs Go.Proofs.YtghlmhlamoagoaaGreat.Sx

theorem own : ownKnob Tryz.prog.godebug = none := by kernel_rfl
theorem laidOut : laidOutB Tryz.prog = true := by kernel_rfl
theorem params4 : Tryz.f4.params = #[23, 23, 4] := by kernel_rfl
theorem res4 : Tryz.f4.resultTypes = #[4] := by kernel_rfl
theorem bool4 : Tryz.prog.underlying 4 = some .bool := by kernel_rfl
theorem shs4 : shsOf Tryz.prog [23, 23, 4] = some s4.args := by kernel_rfl
theorem plain4 : ∀ t, t ∈ Tryz.f4.params.toList -> Tryz.prog.readableRec t = true /\ t < Tryz.prog.types.size := by
 intro t ht
 rw [params4] at ht
 simp only [List.mem_cons, List.not_mem_nil, or_false] at ht
 rcases ht with rfl | rfl | rfl
 ·exact ⟨by kernel_rfl, of_decide_eq_true (by kernel_rfl)⟩
 ·exact ⟨by kernel_rfl, of_decide_eq_true (by kernel_rfl)⟩
 ·exact ⟨by kernel_rfl, of_decide_eq_true (by kernel_rfl)⟩
noncomputable def glT : TypeId := ((Tryz.prog.globals[0]?).map (·.type)).getD 0
theorem laid_of {W : World} (h : W.ShapedOpen Tryz.prog) : ∃ m, Laid (gl m) W := by
 obtain ⟨m, hm⟩ := cell_of_shapedOpen_int (P := Tryz.prog) (w := W) (g := 0) (t := glT) (zero := #[.int .i64 0]) (k := .i64) h (of_decide_eq_true (by kernel_rfl)) (by kernel_rfl) rfl (by kernel_rfl) (by kernel_rfl) (by kernel_rfl)
 have hlt : 0 < W.heap.size := World.block_lt_of_cell? W _ hm
 refine ⟨m, fun g' vs hg' => ?_⟩
 match g', hg' with
 | 0, hg' =>
  simp only [gl, List.getElem?_cons_zero, zOi] at hg'
  subst hg'
  refine ⟨hlt, fun j v hj => ?_⟩
  match j, hj with
  | 0, hj =>
   simp only [List.getElem?_cons_zero, zOi] at hj
   subst hj
   exact ⟨hm, rfl⟩
  | j + 1, hj => simp at hj
 | n + 1, hg' => simp [gl] at hg'
theorem law4 {vs : List Value} {w : World} {is : List Int} {bs : List Bool} {ps : List Rg} (hfl : flatArgs s4.args vs w = some (is, bs, ps)) : F4 is bs = ([], [true, true]) := by
 obtain ⟨h1, h2, _, _⟩ := flatArgs_len hfl
 have hr := flatArgs_rng hfl
 obtain ⟨i0, t0, rfl, g0⟩ := len_cons (n := 1) h1
 obtain ⟨i1, t1, rfl, g1⟩ := len_cons (n := 0) g0
 obtain rfl := len_nil g1
 obtain ⟨b0, u0, rfl, k0⟩ := len_cons (n := 2) h2
 obtain ⟨b1, u1, rfl, k1⟩ := len_cons (n := 1) k0
 obtain ⟨b2, u2, rfl, k2⟩ := len_cons (n := 0) k1
 obtain rfl := len_nil k2
 simp only [s4, rngA, rngK, IntKind.min, IntKind.max, IntKind.signed, IntKind.bits, zFi, if_false, if_true] at hr
 obtain ⟨r0, r1, _⟩ := hr
 exact prog4 _ _ _ _ _ (by omega) (by omega) (by omega) (by omega)

set_option maxRecDepth 100000 in
theorem lifted4 (os : Os) (started : os.Started) (H : Type) (enc : TypeId × Value -> H) :
  ReturnsInHanded {} Tryz.checked os 4 .any (Rows.flatProgramSpec.pre6 enc Tryz.prog Tryz.f4 Rows.flatProgramRow.domain false) (Rows.flatProgramSpec.post enc Tryz.prog Tryz.f4 false true false false) := by
 refine returnsInHanded_of_change_shaped (C := Tryz.checked) own started (by kernel_rfl) Tryz.func4
  (ChangeSpec.witness6 (enc := enc) (C := Tryz.checked) false ⟨#[], #[.agg #[.int .u8 0, .bool false], .agg #[.int .u8 0, .bool false], .bool false], []⟩ 8 (by kernel_rfl) (by kernel_rfl) (by kernel_rfl) (by kernel_rfl)) ?_
 intro W base args ds gs before hval0 hW _ _ hsh _
 have hval : ∀ (j : Nat) t v, Tryz.f4.params[j]? = some t -> args[j]? = some v -> Value.okWide Tryz.prog W .any base t v := hval0
 have hW' := hW
 obtain ⟨p, q, hA0, hV, rfl, hfz, hnd⟩ := hW
 have hA : DataW.TrodAll enc Tryz.prog W 0 (fun _ => true) true Tryz.f4.params.toList args.toList ds p := hA0
 have hA3 := hA
 rw [params4] at hA3 hval
 obtain ⟨rfl, rfl⟩ := trodVars_none hV
 obtain ⟨is, bs, hfl, _⟩ := flat_of_trod shs4 (fun j t v hj hv => hval j t v (by simpa using hj) (by simpa using hv)) hA3
 have hds : ∃ d1 d2 d3, ds = [d1, d2, d3] := by
  have := (trodAll_len hA3).2
  obtain ⟨d1, t1, rfl, g1⟩ := len_cons (n := 2) this
  obtain ⟨d2, t2, rfl, g2⟩ := len_cons (n := 1) g1
  obtain ⟨d3, t3, rfl, g3⟩ := len_cons (n := 0) g2
  obtain rfl := len_nil g3
  exact ⟨d1, d2, d3, rfl⟩
 have hlaw := law4 hfl
 obtain ⟨m, hL⟩ := laid_of hsh
 have hc := c4 (m := m) args.toList W _ _ [] hL hfl trivial (fun r hr => by cases hr) (fun r hr => by cases hr) (fun q hq => by cases hq) (fun _ => by rw [hlaw]; rfl)
 rw [show args.toList.toArray = args by simp] at hc
 refine Calls.mono hc fun e W' he => ?_
 obtain ⟨v, rfl, hk, ho, _⟩ := he
 rw [hlaw] at ho
 obtain rfl := out_trueP rfl rfl rfl rfl ho
 obtain ⟨d1, d2, d3, rfl⟩ := hds
 exact ⟨_, rfl, law_post laidOut plain4 res4 bool4 rfl hW' hA (by simp) rfl rfl hk⟩

theorem flatProgram_holds : Rows.FlatProgramSaid :=
 OpenClaim.holds_of_wide 4 Tryz.f4 rfl rfl rfl rfl rfl rfl rfl ⟨rfl, rfl, rfl, rfl, rfl⟩ rfl rfl rfl rfl rfl (by kernel_rfl) Tryz.func4 (by kernel_rfl)
  (of_decide_eq_true (by kernel_rfl)) (by unfold Func.isWrapper; first | (rw [if_pos (by decide +kernel)]; kernel_rfl) | (rw [if_neg (by decide +kernel)]; exact ⟨rfl, rfl⟩))
  (fun os started H enc _ => lifted4 os started H enc)
end Go.Proofs.YtghlmhlamoagoaaGreat.Fl
