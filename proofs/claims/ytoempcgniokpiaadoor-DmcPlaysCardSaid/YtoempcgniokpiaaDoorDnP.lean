/-
  dmc: what a check, and a tick, come to. No condition.
-/
import Derived.Test.YtoempcgniokpiaaDoorDnS
import Derived.Test.YtoempcgniokpiaaDoorSxY
set_option linter.unusedVariables false
set_option linter.unusedSimpArgs false
namespace Go.Proofs.YtoempcgniokpiaaDoor.Dn
open Go Go.Proofs.YtoempcgniokpiaaDoor.Sx

def may (rate level from_ size at_ left bits count : Int) : Bool := decide (rate < 16) && decide (level < 128) && decide (from_ ≥ 32768) && decide (at_ ≥ 32768) && decide (size ≤ 4081) && decide (left ≤ 4081) && decide (bits ≥ 1) && decide (bits ≤ 8) && decide (count < 428)
theorem v17 (i0 i1 i2 i3 i4 i5 i6 i7 i8 i9 : Int) (b0 b1 b2 b3 b4 : Bool) : F17 [i0,i1,i2,i3,i4,i5,i6,i7,i8,i9] [b0,b1,b2,b3,b4] = ([if may i0 i1 i2 i3 i4 i5 i8 i9 then 0 else 1], []) := by
  simp only [F17, Smry.run, S17, evEm, envOf, RI.d, RB.d, A.d, B.d, cmB, arI, List.getD_cons_zero, List.getD_cons_succ, List.cons_append, List.nil_append, List.map_cons, List.map_nil, may]
  simp
  grind
theorem f17 {Φ : Funs} (h : Φ 17 = F17) (i0 i1 i2 i3 i4 i5 i6 i7 i8 i9 : Int) (b0 b1 b2 b3 b4 : Bool) : Φ 17 [i0,i1,i2,i3,i4,i5,i6,i7,i8,i9] [b0,b1,b2,b3,b4] = ([if may i0 i1 i2 i3 i4 i5 i8 i9 then 0 else 1], []) := by rw [h, v17]
/-- Where the level goes. -/
def lv (l sh : Int) (silent : Bool) : Int := if silent then l else if sh % 2 = 1 then (if l ≤ 125 then l + 2 else l) else if 2 ≤ l then l - 2 else l
def per' (r : Int) : Int := per.getD r.toNat 0
theorem tab_le {r : Int} (h : r < 16) (h0 : 0 ≤ r) : 54 ≤ per.getD r.toNat (0 : Int) ∧ per.getD r.toNat (0 : Int) ≤ 428 :=
  of_decide_eq_true ((allR_spec (f := fun n => decide (54 ≤ per.getD n (0 : Int) ∧ per.getD n (0 : Int) ≤ 428)) (k := 4) (lo := 0) (by kernel_rfl)) r.toNat (Nat.zero_le _) (by omega))
theorem tick (i0 i1 i2 i3 i4 i5 i6 i7 i8 i9 : Int) (b0 b1 b2 b3 b4 : Bool) (hm : may i0 i1 i2 i3 i4 i5 i8 i9 = true) (h0 : 0 ≤ i0) (h1 : 0 ≤ i1) (h7 : 0 ≤ i7) (h7' : i7 ≤ 255) (h9 : 0 ≤ i9) :
    F25 [i0,i1,i2,i3,i4,i5,i6,i7,i8,i9] [b0,b1,b2,b3,b4] =
      if 0 < i9 then ([i0,i1,i2,i3,i4,i5,i6,i7,i8,i9-1], [true,b0,b1,b2,b3,b4])
      else ([i0, lv i1 i7 b4, i2, i3, i4, i5, i6, if i8 = 1 then (if b3 then i6 else i7 / 2) else i7 / 2, if i8 = 1 then 8 else i8 - 1, per' i0 - 1],
        [true, b0, b1, b2, if i8 = 1 then false else b3, if i8 = 1 then !b3 else b4]) := by
  unfold F25
  obtain ⟨ρ, e1, e2, e3, e4⟩ := Smry.run_specT (Φ := tabF T3) (S := S25) (is := [i0,i1,i2,i3,i4,i5,i6,i7,i8,i9]) (bs := [b0,b1,b2,b3,b4]) rfl
  rw [e1, obAll_eq]
  clear e1
  simp only [S25, obs, Gd.d_cons, Gd.d_nil, eqns, Em.eqn, headsI, headsB, RI.d, RB.d, A.d, B.d, cm_eql, cm_neq, cm_lss, cm_leq, cm_gtr, cm_geq, List.map_cons, List.map_nil, and_true, Nat.zero_add, Nat.reduceAdd, lt1, lt0, true_and, Nat.add_zero, List.getD_cons_zero, List.getD_cons_succ, and8_1, and8_15, and8_127, and8_128, and8_64, or16_top, shr8_1, add8, sub8, add16, sub16, mul16, add64, sub64, mul64, wrap_u8, wrap_u16, wrap_i64, f17 (Φ := tabF T3) rfl] at e2 e3 e4 ⊢
  simp only [e2, e3] at e4 ⊢
  rw [hm] at e4
  simp only [may, Bool.and_eq_true, decide_eq_true_eq] at hm
  have hp := tab_le (r := i0) (by omega) h0
  simp only [if_true] at e4
  unfold lv per'
  rw [show per = [428, 380, 340, 320, 286, 254, 226, 214, 190, 160, 142, 128, 106, 84, 72, 54] from rfl] at hp ⊢
  generalize [428, 380, 340, 320, 286, 254, 226, 214, 190, 160, 142, 128, 106, 84, 72, 54].getD i0.toNat (0 : Int) = pv at hp e4 ⊢
  grind
end Go.Proofs.YtoempcgniokpiaaDoor.Dn
