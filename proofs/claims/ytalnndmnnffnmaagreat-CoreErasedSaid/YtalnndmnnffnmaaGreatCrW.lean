/-
  What the processor's check answers, from its numbers. No condition.
-/
import Derived.Test.YtalnndmnnffnmaaGreatCrS1
import Derived.Test.YtalnndmnnffnmaaGreatSxVa
set_option linter.unusedVariables false
set_option linter.unusedSimpArgs false
namespace Go.Proofs.YtalnndmnnffnmaaGreat.Cr
open Go Go.Proofs Go.Proofs.YtalnndmnnffnmaaGreat.Sx

/-- In how many cycles at the most an instruction is done. -/
def most (n : Nat) : Int := if mdT.getD n 0 = 11 then cyT.getD n 0 + 2 else if crT.getD n false then cyT.getD n 0 + 1 else if mdT.getD n 0 = 20 then 2 else cyT.getD n 0
def tmay (op t : Int) : Bool := decide (0 ≤ t) && (decide (t ≤ 0) || decide (t < most op.toNat))
def may (p s op t intr pend : Int) : Bool := tmay op t && (decide (0 ≤ intr) && decide (intr ≤ 3)) && (decide (0 ≤ pend) && decide (pend ≤ 2)) && decide (arI .and .u8 p 207 = p) && decide (arI .and .u8 s 207 = s)
theorem f25 {Φ : Funs} (h : Φ 25 = F25) (i : Int) : Φ 25 [i] [] = dec i.toNat := by rw [h]; rfl
theorem cy_le (n : Nat) : 0 ≤ cyT.getD n 0 ∧ cyT.getD n 0 ≤ 8 := by
  by_cases h : n < 256
  · exact of_decide_eq_true (allR_spec (f := fun n => decide (0 ≤ cyT.getD n (0 : Int) ∧ cyT.getD n (0 : Int) ≤ 8)) (k := 8) (lo := 0) (by kernel_rfl) n (Nat.zero_le _) (by omega))
  · rw [getD_ge (by rw [show cyT.length = 256 by kernel_rfl]; omega)]; omega
theorem w15 (i0 i1 i2 i3 i4 i5 i6 i7 i8 i9 i10 i11 i12 : Int) (b0 b1 b2 b3 b4 b5 b6 b7 b8 b9 b10 b11 : Bool) : F15 [i0,i1,i2,i3,i4,i5,i6,i7,i8,i9,i10,i11,i12] [b0,b1,b2,b3,b4,b5,b6,b7,b8,b9,b10,b11] = ([if may i4 i5 i7 i8 i11 i12 then 0 else 1], []) := by
  unfold F15
  obtain ⟨ρ, e1, e2, e3, e4⟩ := Smry.run_spec (Φ := tabF T2) (S := S15) (is := [i0,i1,i2,i3,i4,i5,i6,i7,i8,i9,i10,i11,i12]) (bs := [b0,b1,b2,b3,b4,b5,b6,b7,b8,b9,b10,b11]) rfl
  rw [e1]
  simp only [S15, eqns, Em.eqn, headsI, headsB, RI.d, RB.d, A.d, B.d, cm_eql, cm_neq, cm_lss, cm_leq, cm_gtr, cm_geq, List.map_cons, List.map_nil, and_true, Nat.zero_add, Nat.reduceAdd, ltn, upto, true_and, Nat.add_zero, List.getD_cons_zero, List.getD_cons_succ] at e2 e3 e4 ⊢
  simp only [e2, e3] at e4 ⊢
  rw [f25 (Φ := tabF T2) rfl] at e4
  simp only [dec, eqns, Em.eqn, headsI, headsB, RI.d, RB.d, A.d, B.d, cm_eql, cm_neq, cm_lss, cm_leq, cm_gtr, cm_geq, List.map_cons, List.map_nil, and_true, Nat.zero_add, Nat.reduceAdd, ltn, upto, true_and, Nat.add_zero, List.getD_cons_zero, List.getD_cons_succ] at e4
  unfold may tmay most
  generalize nmT.getD i7.toNat 0 = nm at e4 ⊢
  generalize mdT.getD i7.toNat 0 = md at e4 ⊢
  generalize usT.getD i7.toNat 0 = us at e4 ⊢
  generalize hcy : cyT.getD i7.toNat 0 = cy at e4 ⊢
  generalize crT.getD i7.toNat false = cr at e4 ⊢
  generalize gdT.getD i7.toNat false = gd at e4 ⊢
  generalize arI .and .u8 i4 207 = p' at e4 ⊢
  generalize arI .and .u8 i5 207 = s' at e4 ⊢
  have hc := cy_le i7.toNat
  rw [hcy] at hc
  obtain ⟨⟨⟨a1, a2, a3, a4⟩, a5, a6⟩, a7, a8, a9, a10, a11, a12, a13, a14, a15, a16, a17, a18, a19, a20, a21, a22, a23, a24, a25, a26, a27, a28, a29, a30, a31, a32, a33, a34, a35⟩ := e4
  rw [a2] at a7 a10
  rw [a4, show arI .add .i64 cy 2 = cy + 2 from wrap_i64_in (by omega) (by omega)] at a8
  rw [a4, show arI .add .i64 cy 1 = cy + 1 from wrap_i64_in (by omega) (by omega)] at a9
  have key : ρ.i 21 = if md = 11 then cy + 2 else if cr = true then cy + 1 else if md = 20 then 2 else cy := by
    simp only [a13, a12, a11, a10, a9, a8, a7, a5, a4, beq_iff_eq]
  rw [← key]
  generalize ρ.i 21 = mo at a16 ⊢
  simp only [a35, a34, a33, a32, a31, a30, a29, a28, a27, a26, a25, a24, a23, a22, a21, a20, a19, a18, a17, a16, a15, a14]
  congr 2
  have : (!(decide (i8 < 0) || decide (0 < i8) && decide (mo ≤ i8) || decide (i11 < 0) || decide (3 < i11) || decide (i12 < 0) || decide (2 < i12) || !(p' == i4 && s' == i5))) =
    ((decide (0 ≤ i8) && (decide (i8 ≤ 0) || decide (i8 < mo))) && (decide (0 ≤ i11) && decide (i11 ≤ 3)) && (decide (0 ≤ i12) && decide (i12 ≤ 2)) && decide (p' = i4) && decide (s' = i5)) := by
    rw [Bool.eq_iff_iff]
    simp only [Bool.not_eq_true', Bool.or_eq_false_iff, Bool.and_eq_false_iff, Bool.and_eq_true, Bool.or_eq_true, decide_eq_true_eq, decide_eq_false_iff_not, Bool.not_eq_false', beq_iff_eq]
    omega
  simp only [this]
end Go.Proofs.YtalnndmnnffnmaaGreat.Cr
